import Derived.Test.YtbdchgofcejiiaaFuH
set_option linter.unusedVariables false
namespace Go.Proofs.Ytbdchgofcejiiaa
open Go Go.Pg
noncomputable section
def laws_szIntS (a1 : (List Int)) (left3 : Int) : Option (Int) :=
 if (decide ((w64 (left3 - (a1.length : Int))) < (0 : Int))) = true then (
 some (-1 : Int))
 else (
 some (w64 (left3 - (a1.length : Int))))
def laws_szFix (a1 : Fix) (left3 : Int) : Option (Int) :=
 (laws_szIntS a1.Data left3).bind fun (r5 : Int) =>
 if (decide (r5 < (0 : Int))) = true then (
 some (-1 : Int))
 else (
 some r5)
def laws_szFixS_J1 (left25 : Int) : Option (Int) :=
 some left25
def laws_szFixS_L1 (a1 : (List Fix)) (left13 : Int) (i14 : Int) : Option ((Int × Int) ⊕ ((Int) ⊕ (Int))) :=
 if (decide (i14 < (a1.length : Int))) = true then (
 if (0 ≤ i14 ∧ i14 < (a1.length : Int)) then
 (laws_szFix (ix a1 i14) left13).bind fun (r20 : Int) =>
 if (decide (r20 < (0 : Int))) = true then (
 some (.inr (.inl (-1 : Int))))
 else (
 some (.inl (r20, (w64 (i14 + (1 : Int))))))
 else none)
 else (
 some (.inr (.inr left13)))
def laws_szFixS (a1 : (List Fix)) (left3 : Int) : Option (Int) :=
 if (decide ((w64 (left3 - (a1.length : Int))) < (0 : Int))) = true then (
 some (-1 : Int))
 else (
 (loopM (fun s : Int × Int => laws_szFixS_L1 a1 s.1 s.2) ((w64 (left3 - (a1.length : Int))), (0 : Int))).bind fun e => match e with
 | .inl e => some e
 | .inr e => laws_szFixS_J1 e)
def laws_szAccess (a1 : Access) (left3 : Int) : Option (Int) :=
 (laws_szIntS a1.Steps left3).bind fun (r5 : Int) =>
 if (decide (r5 < (0 : Int))) = true then (
 some (-1 : Int))
 else (
 some r5)
def laws_szAccessS_J1 (left25 : Int) : Option (Int) :=
 some left25
def laws_szAccessS_L1 (a1 : (List Access)) (left13 : Int) (i14 : Int) : Option ((Int × Int) ⊕ ((Int) ⊕ (Int))) :=
 if (decide (i14 < (a1.length : Int))) = true then (
 if (0 ≤ i14 ∧ i14 < (a1.length : Int)) then
 (laws_szAccess (ix a1 i14) left13).bind fun (r20 : Int) =>
 if (decide (r20 < (0 : Int))) = true then (
 some (.inr (.inl (-1 : Int))))
 else (
 some (.inl (r20, (w64 (i14 + (1 : Int))))))
 else none)
 else (
 some (.inr (.inr left13)))
def laws_szAccessS (a1 : (List Access)) (left3 : Int) : Option (Int) :=
 if (decide ((w64 (left3 - (a1.length : Int))) < (0 : Int))) = true then (
 some (-1 : Int))
 else (
 (loopM (fun s : Int × Int => laws_szAccessS_L1 a1 s.1 s.2) ((w64 (left3 - (a1.length : Int))), (0 : Int))).bind fun e => match e with
 | .inl e => some e
 | .inr e => laws_szAccessS_J1 e)
def laws_szCalcS (a1 : (List Calc)) (left3 : Int) : Option (Int) :=
 if (decide ((w64 (left3 - (a1.length : Int))) < (0 : Int))) = true then (
 some (-1 : Int))
 else (
 some (w64 (left3 - (a1.length : Int))))
def laws_szKernel (a1 : Kernel) (left6 : Int) : Option (Int) :=
 (laws_szIntS a1.Loops left6).bind fun (r8 : Int) =>
 if (decide (r8 < (0 : Int))) = true then (
 some (-1 : Int))
 else (
 (laws_szAccessS a1.Loads r8).bind fun (r11 : Int) =>
 if (decide (r11 < (0 : Int))) = true then (
 some (-1 : Int))
 else (
 (laws_szAccess a1.Store r11).bind fun (r14 : Int) =>
 if (decide (r14 < (0 : Int))) = true then (
 some (-1 : Int))
 else (
 (laws_szCalcS a1.Code r14).bind fun (r17 : Int) =>
 if (decide (r17 < (0 : Int))) = true then (
 some (-1 : Int))
 else (
 some r17))))
def laws_szKernelS_J1 (left31 : Int) : Option (Int) :=
 some left31
def laws_szKernelS_L1 (a1 : (List Kernel)) (left16 : Int) (i17 : Int) : Option ((Int × Int) ⊕ ((Int) ⊕ (Int))) :=
 if (decide (i17 < (a1.length : Int))) = true then (
 if (0 ≤ i17 ∧ i17 < (a1.length : Int)) then
 (laws_szKernel (ix a1 i17) left16).bind fun (r26 : Int) =>
 if (decide (r26 < (0 : Int))) = true then (
 some (.inr (.inl (-1 : Int))))
 else (
 some (.inl (r26, (w64 (i17 + (1 : Int))))))
 else none)
 else (
 some (.inr (.inr left16)))
def laws_szKernelS (a1 : (List Kernel)) (left3 : Int) : Option (Int) :=
 if (decide ((w64 (left3 - (a1.length : Int))) < (0 : Int))) = true then (
 some (-1 : Int))
 else (
 (loopM (fun s : Int × Int => laws_szKernelS_L1 a1 s.1 s.2) ((w64 (left3 - (a1.length : Int))), (0 : Int))).bind fun e => match e with
 | .inl e => some e
 | .inr e => laws_szKernelS_J1 e)
def laws_szNest (a1 : Nest) (left7 : Int) : Option (Int) :=
 (laws_szIntS a1.Sizes left7).bind fun (r9 : Int) =>
 if (decide (r9 < (0 : Int))) = true then (
 some (-1 : Int))
 else (
 (laws_szIntS a1.Ins r9).bind fun (r12 : Int) =>
 if (decide (r12 < (0 : Int))) = true then (
 some (-1 : Int))
 else (
 (laws_szFixS a1.Fixed r12).bind fun (r15 : Int) =>
 if (decide (r15 < (0 : Int))) = true then (
 some (-1 : Int))
 else (
 (laws_szKernelS a1.Kernels r15).bind fun (r18 : Int) =>
 if (decide (r18 < (0 : Int))) = true then (
 some (-1 : Int))
 else (
 (laws_szIntS a1.Outs r18).bind fun (r21 : Int) =>
 if (decide (r21 < (0 : Int))) = true then (
 some (-1 : Int))
 else (
 some r21)))))
def laws_toIntS_J1 (x25 : (List Int)) : Option ((List Int)) :=
 some x25
def laws_toIntS_L1 (a1 : (List Int)) (x14 : (List Int)) (i15 : Int) : Option (((List Int) × Int) ⊕ ((List Int))) :=
 if (decide (i15 < (a1.length : Int))) = true then (
 if (0 ≤ i15 ∧ i15 < (a1.length : Int)) then
 if (0 ≤ i15 ∧ i15 < ((List.replicate (a1.length : Int).toNat (0 : Int)).length : Int)) then
 some (.inl ((x14.set i15.toNat (ix a1 i15)), (w64 (i15 + (1 : Int)))))
 else none
 else none)
 else (
 some (.inr x14))
def laws_toIntS (a1 : (List Int)) : Option ((List Int)) :=
 if (0 ≤ (a1.length : Int) ∧ (a1.length : Int) ≤ 140737488355328 ∧ 8 * (a1.length : Int) ≤ 281474976710656) then
 (loopM (fun s : (List Int) × Int => laws_toIntS_L1 a1 s.1 s.2) ((List.replicate (a1.length : Int).toNat (0 : Int)), (0 : Int))).bind fun e => laws_toIntS_J1 e
 else none
def laws_toFix (a1 : Fix) : Option (Fix) :=
 (laws_toIntS a1.Data).bind fun (r6 : (List Int)) =>
 some (⟨a1.Buffer, r6⟩ : Fix)
def laws_toFixS_J1 (x33 : (List Fix)) : Option ((List Fix)) :=
 some x33
def laws_toFixS_L1 (a1 : (List Fix)) (x18 : (List Fix)) (i19 : Int) : Option (((List Fix) × Int) ⊕ ((List Fix))) :=
 if (decide (i19 < (a1.length : Int))) = true then (
 if (0 ≤ i19 ∧ i19 < (a1.length : Int)) then
 (laws_toFix (ix a1 i19)).bind fun (r25 : Fix) =>
 if (0 ≤ i19 ∧ i19 < ((List.replicate (a1.length : Int).toNat zT159.z).length : Int)) then
 some (.inl ((x18.set i19.toNat r25), (w64 (i19 + (1 : Int)))))
 else none
 else none)
 else (
 some (.inr x18))
def laws_toFixS (a1 : (List Fix)) : Option ((List Fix)) :=
 if (0 ≤ (a1.length : Int) ∧ (a1.length : Int) ≤ 140737488355328 ∧ 32 * (a1.length : Int) ≤ 281474976710656) then
 (loopM (fun s : (List Fix) × Int => laws_toFixS_L1 a1 s.1 s.2) ((List.replicate (a1.length : Int).toNat zT159.z), (0 : Int))).bind fun e => laws_toFixS_J1 e
 else none
def laws_toAccess (a1 : Access) : Option (Access) :=
 (laws_toIntS a1.Steps).bind fun (r6 : (List Int)) =>
 some (⟨a1.Buffer, a1.Offset, r6⟩ : Access)
def laws_toAccessS_J1 (x33 : (List Access)) : Option ((List Access)) :=
 some x33
def laws_toAccessS_L1 (a1 : (List Access)) (x18 : (List Access)) (i19 : Int) : Option (((List Access) × Int) ⊕ ((List Access))) :=
 if (decide (i19 < (a1.length : Int))) = true then (
 if (0 ≤ i19 ∧ i19 < (a1.length : Int)) then
 (laws_toAccess (ix a1 i19)).bind fun (r25 : Access) =>
 if (0 ≤ i19 ∧ i19 < ((List.replicate (a1.length : Int).toNat zT124.z).length : Int)) then
 some (.inl ((x18.set i19.toNat r25), (w64 (i19 + (1 : Int)))))
 else none
 else none)
 else (
 some (.inr x18))
def laws_toAccessS (a1 : (List Access)) : Option ((List Access)) :=
 if (0 ≤ (a1.length : Int) ∧ (a1.length : Int) ≤ 140737488355328 ∧ 40 * (a1.length : Int) ≤ 281474976710656) then
 (loopM (fun s : (List Access) × Int => laws_toAccessS_L1 a1 s.1 s.2) ((List.replicate (a1.length : Int).toNat zT124.z), (0 : Int))).bind fun e => laws_toAccessS_J1 e
 else none
def laws_toCalc (a1 : Calc) : Option (Calc) :=
 some a1
def laws_toCalcS_J1 (x29 : (List Calc)) : Option ((List Calc)) :=
 some x29
def laws_toCalcS_L1 (a1 : (List Calc)) (x16 : (List Calc)) (i17 : Int) : Option (((List Calc) × Int) ⊕ ((List Calc))) :=
 if (decide (i17 < (a1.length : Int))) = true then (
 if (0 ≤ i17 ∧ i17 < (a1.length : Int)) then
 (laws_toCalc (ix a1 i17)).bind fun (r22 : Calc) =>
 if (0 ≤ i17 ∧ i17 < ((List.replicate (a1.length : Int).toNat zT216.z).length : Int)) then
 some (.inl ((x16.set i17.toNat r22), (w64 (i17 + (1 : Int)))))
 else none
 else none)
 else (
 some (.inr x16))
def laws_toCalcS (a1 : (List Calc)) : Option ((List Calc)) :=
 if (0 ≤ (a1.length : Int) ∧ (a1.length : Int) ≤ 140737488355328 ∧ 24 * (a1.length : Int) ≤ 281474976710656) then
 (loopM (fun s : (List Calc) × Int => laws_toCalcS_L1 a1 s.1 s.2) ((List.replicate (a1.length : Int).toNat zT216.z), (0 : Int))).bind fun e => laws_toCalcS_J1 e
 else none
def laws_toKernel (a1 : Kernel) : Option (Kernel) :=
 (laws_toIntS a1.Loops).bind fun (r9 : (List Int)) =>
 (laws_toAccessS a1.Loads).bind fun (r12 : (List Access)) =>
 (laws_toAccess a1.Store).bind fun (r15 : Access) =>
 (laws_toCalcS a1.Code).bind fun (r18 : (List Calc)) =>
 some (⟨r9, r12, r15, a1.Sum, r18⟩ : Kernel)
def laws_toKernelS_J1 (x45 : (List Kernel)) : Option ((List Kernel)) :=
 some x45
def laws_toKernelS_L1 (a1 : (List Kernel)) (x24 : (List Kernel)) (i25 : Int) : Option (((List Kernel) × Int) ⊕ ((List Kernel))) :=
 if (decide (i25 < (a1.length : Int))) = true then (
 if (0 ≤ i25 ∧ i25 < (a1.length : Int)) then
 (laws_toKernel (ix a1 i25)).bind fun (r34 : Kernel) =>
 if (0 ≤ i25 ∧ i25 < ((List.replicate (a1.length : Int).toNat zT127.z).length : Int)) then
 some (.inl ((x24.set i25.toNat r34), (w64 (i25 + (1 : Int)))))
 else none
 else none)
 else (
 some (.inr x24))
def laws_toKernelS (a1 : (List Kernel)) : Option ((List Kernel)) :=
 if (0 ≤ (a1.length : Int) ∧ (a1.length : Int) ≤ 140737488355328 ∧ 120 * (a1.length : Int) ≤ 281474976710656) then
 (loopM (fun s : (List Kernel) × Int => laws_toKernelS_L1 a1 s.1 s.2) ((List.replicate (a1.length : Int).toNat zT127.z), (0 : Int))).bind fun e => laws_toKernelS_J1 e
 else none
def laws_toNest (a1 : Nest) : Option (Nest) :=
 (laws_toIntS a1.Sizes).bind fun (r10 : (List Int)) =>
 (laws_toIntS a1.Ins).bind fun (r13 : (List Int)) =>
 (laws_toFixS a1.Fixed).bind fun (r16 : (List Fix)) =>
 (laws_toKernelS a1.Kernels).bind fun (r19 : (List Kernel)) =>
 (laws_toIntS a1.Outs).bind fun (r22 : (List Int)) =>
 some (⟨r10, r13, r16, r19, r22⟩ : Nest)
def spec_l4Within_J1 : Option (Bool) :=
 some true
def spec_l4Within_L1 (index1 : (List Int)) (n3 : Int) (i10 : Int) : Option ((Int) ⊕ ((Bool) ⊕ (Unit))) :=
 if (decide (i10 < (index1.length : Int))) = true then (
 if (0 ≤ i10 ∧ i10 < (index1.length : Int)) then
 if ((decide ((ix index1 i10) < (0 : Int))) || (decide ((ix index1 i10) ≥ n3))) = true then (
 some (.inr (.inl false)))
 else (
 some (.inl (w64 (i10 + (1 : Int)))))
 else none)
 else (
 some (.inr (.inr ())))
def spec_l4Within (index1 : (List Int)) (n3 : Int) : Option (Bool) :=
 (loopM (fun s : Int => spec_l4Within_L1 index1 n3 s) (0 : Int)).bind fun e => match e with
 | .inl e => some e
 | .inr e => spec_l4Within_J1
def spec_l7Has_J1 : Option (Bool) :=
 some false
def spec_l7Has_L1 (list1 : (List Int)) (p3 : Int) (i9 : Int) : Option ((Int) ⊕ ((Bool) ⊕ (Unit))) :=
 if (decide (i9 < (list1.length : Int))) = true then (
 if (0 ≤ i9 ∧ i9 < (list1.length : Int)) then
 if ((ix list1 i9) == p3) = true then (
 some (.inr (.inl true)))
 else (
 some (.inl (w64 (i9 + (1 : Int)))))
 else none)
 else (
 some (.inr (.inr ())))
def spec_l7Has (list1 : (List Int)) (p3 : Int) : Option (Bool) :=
 (loopM (fun s : Int => spec_l7Has_L1 list1 p3 s) (0 : Int)).bind fun e => match e with
 | .inl e => some e
 | .inr e => spec_l7Has_J1
def spec_l5RowOk_J1 (r1 : (List Int)) : Option (Bool) :=
 some ((decide ((r1.length : Int) > (0 : Int))) && (decide ((r1.length : Int) ≤ (4096 : Int))))
def spec_l5RowOk_L1 (r1 : (List Int)) (i9 : Int) : Option ((Int) ⊕ ((Bool) ⊕ (Unit))) :=
 if (decide (i9 < (r1.length : Int))) = true then (
 if (0 ≤ i9 ∧ i9 < (r1.length : Int)) then
 if ((decide ((ix r1 i9) < (0 : Int))) || (decide ((ix r1 i9) ≥ (2147483647 : Int)))) = true then (
 some (.inr (.inl false)))
 else (
 some (.inl (w64 (i9 + (1 : Int)))))
 else none)
 else (
 some (.inr (.inr ())))
def spec_l5RowOk (r1 : (List Int)) : Option (Bool) :=
 (loopM (fun s : Int => spec_l5RowOk_L1 r1 s) (0 : Int)).bind fun e => match e with
 | .inl e => some e
 | .inr e => spec_l5RowOk_J1 r1
def spec_l11Product_J1 (n25 : Int) : Option (Int) :=
 some n25
def spec_l11Product_L1 (a1 : (List Int)) (n12 : Int) (i13 : Int) : Option ((Int × Int) ⊕ ((Int) ⊕ (Int))) :=
 if (decide (i13 < (a1.length : Int))) = true then (
 if (0 ≤ i13 ∧ i13 < (a1.length : Int)) then
 if (((decide ((ix a1 i13) < (1 : Int))) || (decide ((ix a1 i13) > (65536 : Int)))) || (decide ((w64 (n12 * (ix a1 i13))) > (65536 : Int)))) = true then (
 some (.inr (.inl (0 : Int))))
 else (
 some (.inl ((w64 (n12 * (ix a1 i13))), (w64 (i13 + (1 : Int))))))
 else none)
 else (
 some (.inr (.inr n12)))
def spec_l11Product (a1 : (List Int)) : Option (Int) :=
 (loopM (fun s : Int × Int => spec_l11Product_L1 a1 s.1 s.2) ((1 : Int), (0 : Int))).bind fun e => match e with
 | .inl e => some e
 | .inr e => spec_l11Product_J1 e
def spec_l11Code_J7 : Option (Bool) :=
 some true
def spec_l11Code_J6 (i34 : Int) (ok60 : Bool) : Option ((Int) ⊕ ((Bool) ⊕ (Unit))) :=
 if (!ok60) = true then (
 some (.inr (.inl false)))
 else (
 some (.inl (w64 (i34 + (1 : Int)))))
def spec_l11Code_J5 (code1 : (List Calc)) (i34 : Int) (x56 : Bool) : Option ((Int) ⊕ ((Bool) ⊕ (Unit))) :=
 if x56 = true then (
 spec_l11Code_J6 i34 (((decide ((ix code1 i34).A ≥ (0 : Int))) && (decide ((ix code1 i34).A < i34))) && ((ix code1 i34).B == (0 : Int))))
 else (
 spec_l11Code_J6 i34 false)
def spec_l11Code_J4 (code1 : (List Calc)) (i34 : Int) (x48 : Bool) : Option ((Int) ⊕ ((Bool) ⊕ (Unit))) :=
 if x48 = true then (
 spec_l11Code_J6 i34 ((((decide ((ix code1 i34).A ≥ (0 : Int))) && (decide ((ix code1 i34).A < i34))) && (decide ((ix code1 i34).B ≥ (0 : Int)))) && (decide ((ix code1 i34).B < i34))))
 else (
 if ((ix code1 i34).Op == (6 : Int)) = true then (
 spec_l11Code_J5 code1 i34 ((ix code1 i34).Op == (6 : Int)))
 else (
 if ((ix code1 i34).Op == (7 : Int)) = true then (
 spec_l11Code_J5 code1 i34 ((ix code1 i34).Op == (7 : Int)))
 else (
 if ((ix code1 i34).Op == (8 : Int)) = true then (
 spec_l11Code_J5 code1 i34 ((ix code1 i34).Op == (8 : Int)))
 else (
 spec_l11Code_J5 code1 i34 ((ix code1 i34).Op == (9 : Int))))))
def spec_l11Code_L1 (code1 : (List Calc)) (loads3 : Int) (i34 : Int) : Option ((Int) ⊕ ((Bool) ⊕ (Unit))) :=
 if (decide (i34 < (code1.length : Int))) = true then (
 if (0 ≤ i34 ∧ i34 < (code1.length : Int)) then
 if ((ix code1 i34).Op == (1 : Int)) = true then (
 spec_l11Code_J6 i34 (((decide ((ix code1 i34).A ≥ (0 : Int))) && (decide ((ix code1 i34).A < loads3))) && ((ix code1 i34).B == (0 : Int))))
 else (
 if ((ix code1 i34).Op == (2 : Int)) = true then (
 spec_l11Code_J6 i34 (((decide ((ix code1 i34).A ≥ (0 : Int))) && (decide ((ix code1 i34).A < (2147483647 : Int)))) && ((ix code1 i34).B == (0 : Int))))
 else (
 if ((ix code1 i34).Op == (3 : Int)) = true then (
 spec_l11Code_J4 code1 i34 ((ix code1 i34).Op == (3 : Int)))
 else (
 if ((ix code1 i34).Op == (4 : Int)) = true then (
 spec_l11Code_J4 code1 i34 ((ix code1 i34).Op == (4 : Int)))
 else (
 spec_l11Code_J4 code1 i34 ((ix code1 i34).Op == (5 : Int))))))
 else none)
 else (
 some (.inr (.inr ())))
def spec_l11Code (code1 : (List Calc)) (loads3 : Int) : Option (Bool) :=
 if ((decide ((code1.length : Int) < (1 : Int))) || (decide ((code1.length : Int) > (60 : Int)))) = true then (
 some false)
 else (
 (loopM (fun s : Int => spec_l11Code_L1 code1 loads3 s) (0 : Int)).bind fun e => match e with
 | .inl e => some e
 | .inr e => spec_l11Code_J7)
def spec_l11Access_J3 (a1 : Access) (sizes5 : (List Int)) (low64 : Int) (high65 : Int) : Option (Bool) :=
 if (decide (low64 ≥ (0 : Int))) = true → (0 ≤ a1.Buffer ∧ a1.Buffer < (sizes5.length : Int)) then
 some ((decide (low64 ≥ (0 : Int))) && (decide (high65 < (ix sizes5 a1.Buffer))))
 else none
def spec_l11Access_J2 (i39 : Int) (low59 : Int) (high60 : Int) : Option ((Int × Int × Int) ⊕ ((Bool) ⊕ (Int × Int))) :=
 some (.inl (low59, high60, (w64 (i39 + (1 : Int)))))
def spec_l11Access_L1 (a1 : Access) (loops3 : (List Int)) (low37 : Int) (high38 : Int) (i39 : Int) : Option ((Int × Int × Int) ⊕ ((Bool) ⊕ (Int × Int))) :=
 if (decide (i39 < (loops3.length : Int))) = true then (
 if (0 ≤ i39 ∧ i39 < (a1.Steps.length : Int)) then
 if (0 ≤ i39 ∧ i39 < (loops3.length : Int)) then
 if (((ix loops3 i39) == (1 : Int)) && ((ix a1.Steps i39) == (0 : Int))) = true then (
 spec_l11Access_J2 i39 low37 high38)
 else (
 if ((((ix loops3 i39) == (1 : Int)) || (decide ((ix a1.Steps i39) < (-4096 : Int)))) || (decide ((ix a1.Steps i39) > (4096 : Int)))) = true then (
 some (.inr (.inl false)))
 else (
 if (decide ((ix a1.Steps i39) < (0 : Int))) = true then (
 spec_l11Access_J2 i39 (w64 (low37 + (w64 ((ix a1.Steps i39) * (w64 ((ix loops3 i39) - (1 : Int))))))) high38)
 else (
 spec_l11Access_J2 i39 low37 (w64 (high38 + (w64 ((ix a1.Steps i39) * (w64 ((ix loops3 i39) - (1 : Int))))))))))
 else none
 else none)
 else (
 some (.inr (.inr (low37, high38))))
def spec_l11Access (a1 : Access) (loops3 : (List Int)) (sizes5 : (List Int)) : Option (Bool) :=
 if ((((decide (a1.Buffer < (0 : Int))) || (decide (a1.Buffer ≥ (sizes5.length : Int)))) || ((a1.Steps.length : Int) != (loops3.length : Int))) || (decide (a1.Offset < (0 : Int)))) = false → (0 ≤ a1.Buffer ∧ a1.Buffer < (sizes5.length : Int)) then
 if (((((decide (a1.Buffer < (0 : Int))) || (decide (a1.Buffer ≥ (sizes5.length : Int)))) || ((a1.Steps.length : Int) != (loops3.length : Int))) || (decide (a1.Offset < (0 : Int)))) || (decide (a1.Offset ≥ (ix sizes5 a1.Buffer)))) = true then (
 some false)
 else (
 (loopM (fun s : Int × Int × Int => spec_l11Access_L1 a1 loops3 s.1 s.2.1 s.2.2) (a1.Offset, a1.Offset, (0 : Int))).bind fun e => match e with
 | .inl e => some e
 | .inr e => spec_l11Access_J3 a1 sizes5 e.1 e.2)
 else none
def spec_l11Kernel_J1 : Option (Bool) :=
 some true
def spec_l11Kernel_L1 (k1 : Kernel) (sizes6 : (List Int)) (i29 : Int) : Option ((Int) ⊕ ((Bool) ⊕ (Unit))) :=
 if (decide (i29 < (k1.Loads.length : Int))) = true then (
 if (0 ≤ i29 ∧ i29 < (k1.Loads.length : Int)) then
 (spec_l11Access (ix k1.Loads i29) k1.Loops sizes6).bind fun (r35 : Bool) =>
 if ((!r35) || ((ix k1.Loads i29).Buffer == k1.Store.Buffer)) = true then (
 some (.inr (.inl false)))
 else (
 some (.inl (w64 (i29 + (1 : Int)))))
 else none)
 else (
 some (.inr (.inr ())))
def spec_l11Kernel (k1 : Kernel) (sizes6 : (List Int)) : Option (Bool) :=
 (gcall (!((decide ((k1.Loops.length : Int) > (12 : Int))) || (decide ((k1.Loads.length : Int) > (30 : Int))))) (spec_l11Product k1.Loops)).bind fun (r9 : Int) =>
 (gcall (!(((decide ((k1.Loops.length : Int) > (12 : Int))) || (decide ((k1.Loads.length : Int) > (30 : Int)))) || (r9 == (0 : Int)))) (spec_l11Code k1.Code (k1.Loads.length : Int))).bind fun (r11 : Bool) =>
 (gcall (!((((decide ((k1.Loops.length : Int) > (12 : Int))) || (decide ((k1.Loads.length : Int) > (30 : Int)))) || (r9 == (0 : Int))) || (!r11))) (spec_l11Access k1.Store k1.Loops sizes6)).bind fun (r13 : Bool) =>
 if (((((decide ((k1.Loops.length : Int) > (12 : Int))) || (decide ((k1.Loads.length : Int) > (30 : Int)))) || (r9 == (0 : Int))) || (!r11)) || (!r13)) = true then (
 some false)
 else (
 (loopM (fun s : Int => spec_l11Kernel_L1 k1 sizes6 s) (0 : Int)).bind fun e => match e with
 | .inl e => some e
 | .inr e => spec_l11Kernel_J1)
def spec_NestOk_J4 (all159 : Int) : Option (Bool) :=
 some (decide (all159 ≤ (1000000 : Int)))
def spec_NestOk_L4 (l1 : Nest) (given109 : (List Int)) (all133 : Int) (i134 : Int) : Option ((Int × Int) ⊕ ((Bool) ⊕ (Int))) :=
 if (decide (i134 < (l1.Kernels.length : Int))) = true then (
 if (0 ≤ i134 ∧ i134 < (l1.Kernels.length : Int)) then
 (spec_l11Kernel (ix l1.Kernels i134) l1.Sizes).bind fun (r143 : Bool) =>
 (gcall (!(!r143)) (spec_l7Has given109 ((ix l1.Kernels i134).Store.Buffer))).bind fun (r145 : Bool) =>
 if ((!r143) || r145) = true then (
 some (.inr (.inl false)))
 else (
 (spec_l11Product ((ix l1.Kernels i134).Loops)).bind fun (r155 : Int) =>
 some (.inl ((w64 (all133 + r155)), (w64 (i134 + (1 : Int))))))
 else none)
 else (
 some (.inr (.inr all133)))
def spec_NestOk_J3 (l1 : Nest) (given109 : (List Int)) : Option (Bool) :=
 (loopM (fun s : Int × Int => spec_NestOk_L4 l1 given109 s.1 s.2) ((0 : Int), (0 : Int))).bind fun e => match e with
 | .inl e => some e
 | .inr e => spec_NestOk_J4 e
def spec_NestOk_L3 (l1 : Nest) (given82 : (List Int)) (i84 : Int) : Option (((List Int) × Int) ⊕ ((Bool) ⊕ ((List Int)))) :=
 if (decide (i84 < (l1.Fixed.length : Int))) = true then (
 if (0 ≤ i84 ∧ i84 < (l1.Fixed.length : Int)) then
 (gcall (!((decide ((ix l1.Fixed i84).Buffer < (0 : Int))) || (decide ((ix l1.Fixed i84).Buffer ≥ (l1.Sizes.length : Int))))) (spec_l7Has given82 ((ix l1.Fixed i84).Buffer))).bind fun (r89 : Bool) =>
 if (((decide ((ix l1.Fixed i84).Buffer < (0 : Int))) || (decide ((ix l1.Fixed i84).Buffer ≥ (l1.Sizes.length : Int)))) || r89) = false → (0 ≤ (ix l1.Fixed i84).Buffer ∧ (ix l1.Fixed i84).Buffer < (l1.Sizes.length : Int)) then
 (gcall ((!((((decide ((ix l1.Fixed i84).Buffer < (0 : Int))) || (decide ((ix l1.Fixed i84).Buffer ≥ (l1.Sizes.length : Int)))) || r89) || ((((ix l1.Fixed i84).Data).length : Int) != (ix l1.Sizes (ix l1.Fixed i84).Buffer)))) && (decide ((((ix l1.Fixed i84).Data).length : Int) > (0 : Int)))) (spec_l5RowOk ((ix l1.Fixed i84).Data))).bind fun (r95 : Bool) =>
 if (((((decide ((ix l1.Fixed i84).Buffer < (0 : Int))) || (decide ((ix l1.Fixed i84).Buffer ≥ (l1.Sizes.length : Int)))) || r89) || ((((ix l1.Fixed i84).Data).length : Int) != (ix l1.Sizes (ix l1.Fixed i84).Buffer))) || ((decide ((((ix l1.Fixed i84).Data).length : Int) > (0 : Int))) && (!r95))) = true then (
 some (.inr (.inl false)))
 else (
 if given82.length + ([(ix l1.Fixed i84).Buffer] : List Int).length ≤ 17592186044416 then
 some (.inl ((given82 ++ ([(ix l1.Fixed i84).Buffer] : List Int)), (w64 (i84 + (1 : Int)))))
 else none)
 else none
 else none)
 else (
 some (.inr (.inr given82)))
def spec_NestOk_J2 (l1 : Nest) (given59 : (List Int)) : Option (Bool) :=
 (loopM (fun s : (List Int) × Int => spec_NestOk_L3 l1 s.1 s.2) (given59, (0 : Int))).bind fun e => match e with
 | .inl e => some e
 | .inr e => spec_NestOk_J3 l1 e
def spec_NestOk_L2 (l1 : Nest) (given43 : (List Int)) (i45 : Int) : Option (((List Int) × Int) ⊕ ((Bool) ⊕ ((List Int)))) :=
 if (decide (i45 < (l1.Ins.length : Int))) = true then (
 if (0 ≤ i45 ∧ i45 < (l1.Ins.length : Int)) then
 (spec_l7Has given43 (ix l1.Ins i45)).bind fun (r50 : Bool) =>
 if r50 = true then (
 some (.inr (.inl false)))
 else (
 if given43.length + ([(ix l1.Ins i45)] : List Int).length ≤ 17592186044416 then
 some (.inl ((given43 ++ ([(ix l1.Ins i45)] : List Int)), (w64 (i45 + (1 : Int)))))
 else none)
 else none)
 else (
 some (.inr (.inr given43)))
def spec_NestOk_J1 (l1 : Nest) : Option (Bool) :=
 (loopM (fun s : (List Int) × Int => spec_NestOk_L2 l1 s.1 s.2) (([] : List Int), (0 : Int))).bind fun e => match e with
 | .inl e => some e
 | .inr e => spec_NestOk_J2 l1 e
def spec_NestOk_L1 (l1 : Nest) (i24 : Int) : Option ((Int) ⊕ ((Bool) ⊕ (Unit))) :=
 if (decide (i24 < (l1.Sizes.length : Int))) = true then (
 if (0 ≤ i24 ∧ i24 < (l1.Sizes.length : Int)) then
 if ((decide ((ix l1.Sizes i24) < (0 : Int))) || (decide ((ix l1.Sizes i24) > (4096 : Int)))) = true then (
 some (.inr (.inl false)))
 else (
 some (.inl (w64 (i24 + (1 : Int)))))
 else none)
 else (
 some (.inr (.inr ())))
def spec_NestOk (l1 : Nest) : Option (Bool) :=
 (gcall (!((((decide ((l1.Sizes.length : Int) > (200 : Int))) || (decide ((l1.Ins.length : Int) > (40 : Int)))) || (decide ((l1.Outs.length : Int) > (40 : Int)))) || (decide ((l1.Kernels.length : Int) > (400 : Int))))) (spec_l4Within l1.Ins (l1.Sizes.length : Int))).bind fun (r8 : Bool) =>
 (gcall (!(((((decide ((l1.Sizes.length : Int) > (200 : Int))) || (decide ((l1.Ins.length : Int) > (40 : Int)))) || (decide ((l1.Outs.length : Int) > (40 : Int)))) || (decide ((l1.Kernels.length : Int) > (400 : Int)))) || (!r8))) (spec_l4Within l1.Outs (l1.Sizes.length : Int))).bind fun (r10 : Bool) =>
 if ((((((decide ((l1.Sizes.length : Int) > (200 : Int))) || (decide ((l1.Ins.length : Int) > (40 : Int)))) || (decide ((l1.Outs.length : Int) > (40 : Int)))) || (decide ((l1.Kernels.length : Int) > (400 : Int)))) || (!r8)) || (!r10)) = true then (
 some false)
 else (
 (loopM (fun s : Int => spec_NestOk_L1 l1 s) (0 : Int)).bind fun e => match e with
 | .inl e => some e
 | .inr e => spec_NestOk_J1 l1)
def spec_l11Uses_J3 (x35 : (List Int)) : Option ((List Int)) :=
 some x35
def spec_l11Uses_J2 (i21 : Int) (x30 : (List Int)) : Option (((List Int) × Int) ⊕ ((List Int))) :=
 some (.inl (x30, (w64 (i21 + (1 : Int)))))
def spec_l11Uses_L1 (k1 : Kernel) (b6 : Int) (x19 : (List Int)) (i21 : Int) : Option (((List Int) × Int) ⊕ ((List Int))) :=
 if (decide (i21 < (k1.Loads.length : Int))) = true then (
 if (0 ≤ i21 ∧ i21 < (k1.Loads.length : Int)) then
 if ((ix k1.Loads i21).Buffer == b6) = true then (
 if x19.length + ([i21] : List Int).length ≤ 17592186044416 then
 spec_l11Uses_J2 i21 (x19 ++ ([i21] : List Int))
 else none)
 else (
 spec_l11Uses_J2 i21 x19)
 else none)
 else (
 some (.inr x19))
def spec_l11Uses (k1 : Kernel) (b6 : Int) : Option ((List Int)) :=
 (loopM (fun s : (List Int) × Int => spec_l11Uses_L1 k1 b6 s.1 s.2) (([] : List Int), (0 : Int))).bind fun e => spec_l11Uses_J3 e
def spec_l11Reader_J3 (x36 : Int) : Option (Int) :=
 some x36
def spec_l11Reader_J2 (i19 : Int) (x33 : Int) : Option ((Int × Int) ⊕ ((Int) ⊕ (Int))) :=
 some (.inl (x33, (w64 (i19 + (1 : Int)))))
def spec_l11Reader_L1 (ks1 : (List Kernel)) (b3 : Int) (x18 : Int) (i19 : Int) : Option ((Int × Int) ⊕ ((Int) ⊕ (Int))) :=
 if (decide (i19 < (ks1.length : Int))) = true then (
 if (0 ≤ i19 ∧ i19 < (ks1.length : Int)) then
 (spec_l11Uses (ix ks1 i19) b3).bind fun (r28 : (List Int)) =>
 if ((r28.length : Int) == (0 : Int)) = true then (
 spec_l11Reader_J2 i19 x18)
 else (
 if (decide (x18 ≥ (0 : Int))) = true then (
 some (.inr (.inl (-1 : Int))))
 else (
 spec_l11Reader_J2 i19 i19))
 else none)
 else (
 some (.inr (.inr x18)))
def spec_l11Reader (ks1 : (List Kernel)) (b3 : Int) : Option (Int) :=
 (loopM (fun s : Int × Int => spec_l11Reader_L1 ks1 b3 s.1 s.2) ((-1 : Int), (0 : Int))).bind fun e => match e with
 | .inl e => some e
 | .inr e => spec_l11Reader_J3 e
def spec_l11Strides_J3 (x37 : (List Int)) : Option ((List Int)) :=
 some x37
def spec_l11Strides_J2 (loops1 : (List Int)) (x20 : Int) (i21 : Int) (x30 : (List Int)) : Option (((List Int) × Int × Int) ⊕ ((List Int))) :=
 if (0 ≤ i21 ∧ i21 < (loops1.length : Int)) then
 some (.inl (x30, (w64 (x20 * (ix loops1 i21))), (w64 (i21 - (1 : Int)))))
 else none
def spec_l11Strides_L1 (loops1 : (List Int)) (x19 : (List Int)) (x20 : Int) (i21 : Int) : Option (((List Int) × Int × Int) ⊕ ((List Int))) :=
 if (decide (i21 ≥ (0 : Int))) = true then (
 if (0 ≤ i21 ∧ i21 < (loops1.length : Int)) then
 if (decide ((ix loops1 i21) > (1 : Int))) = true then (
 if (0 ≤ i21 ∧ i21 < ((List.replicate (loops1.length : Int).toNat (0 : Int)).length : Int)) then
 spec_l11Strides_J2 loops1 x20 i21 (x19.set i21.toNat x20)
 else none)
 else (
 spec_l11Strides_J2 loops1 x20 i21 x19)
 else none)
 else (
 some (.inr x19))
def spec_l11Strides (loops1 : (List Int)) : Option ((List Int)) :=
 if (0 ≤ (loops1.length : Int) ∧ (loops1.length : Int) ≤ 140737488355328 ∧ 8 * (loops1.length : Int) ≤ 281474976710656) then
 (loopM (fun s : (List Int) × Int × Int => spec_l11Strides_L1 loops1 s.1 s.2.1 s.2.2) ((List.replicate (loops1.length : Int).toNat (0 : Int)), (1 : Int), (w64 ((loops1.length : Int) - (1 : Int))))).bind fun e => spec_l11Strides_J3 e
 else none
def spec_l3SameInts_J1 : Option (Bool) :=
 some true
def spec_l3SameInts_L1 (a1 : (List Int)) (b3 : (List Int)) (i14 : Int) : Option ((Int) ⊕ ((Bool) ⊕ (Unit))) :=
 if (decide (i14 < (a1.length : Int))) = true then (
 if (0 ≤ i14 ∧ i14 < (a1.length : Int)) then
 if (0 ≤ i14 ∧ i14 < (b3.length : Int)) then
 if ((ix a1 i14) != (ix b3 i14)) = true then (
 some (.inr (.inl false)))
 else (
 some (.inl (w64 (i14 + (1 : Int)))))
 else none
 else none)
 else (
 some (.inr (.inr ())))
def spec_l3SameInts (a1 : (List Int)) (b3 : (List Int)) : Option (Bool) :=
 if ((a1.length : Int) != (b3.length : Int)) = true then (
 some false)
 else (
 (loopM (fun s : Int => spec_l3SameInts_L1 a1 b3 s) (0 : Int)).bind fun e => match e with
 | .inl e => some e
 | .inr e => spec_l3SameInts_J1)
def spec_l11Whole_J1 : Option (Bool) :=
 some true
def spec_l11Whole_L1 (l1 : Nest) (p7 : Int) (i45 : Int) : Option ((Int) ⊕ ((Bool) ⊕ (Unit))) :=
 if (decide (i45 < (l1.Kernels.length : Int))) = true then (
 if (i45 != p7) = true → (0 ≤ i45 ∧ i45 < (l1.Kernels.length : Int)) then
 if ((i45 != p7) && ((ix l1.Kernels i45).Store.Buffer == (ix l1.Kernels p7).Store.Buffer)) = false → (decide (i45 ≥ p7)) = true → (0 ≤ i45 ∧ i45 < (l1.Kernels.length : Int)) then
 (gcall ((!((i45 != p7) && ((ix l1.Kernels i45).Store.Buffer == (ix l1.Kernels p7).Store.Buffer))) && (decide (i45 ≥ p7))) (spec_l11Uses (ix l1.Kernels p7) ((ix l1.Kernels i45).Store.Buffer))).bind fun (r49 : (List Int)) =>
 if (((i45 != p7) && ((ix l1.Kernels i45).Store.Buffer == (ix l1.Kernels p7).Store.Buffer)) || ((decide (i45 ≥ p7)) && (decide ((r49.length : Int) > (0 : Int))))) = true then (
 some (.inr (.inl false)))
 else (
 some (.inl (w64 (i45 + (1 : Int)))))
 else none
 else none)
 else (
 some (.inr (.inr ())))
def spec_l11Whole (l1 : Nest) (p7 : Int) : Option (Bool) :=
 if (0 ≤ p7 ∧ p7 < (l1.Kernels.length : Int)) then
 (gcall (!((ix l1.Kernels p7).Sum || ((ix l1.Kernels p7).Store.Offset != (0 : Int)))) (spec_l11Strides ((ix l1.Kernels p7).Loops))).bind fun (r17 : (List Int)) =>
 (gcall (!((ix l1.Kernels p7).Sum || ((ix l1.Kernels p7).Store.Offset != (0 : Int)))) (spec_l3SameInts ((ix l1.Kernels p7).Store.Steps) r17)).bind fun (r20 : Bool) =>
 (gcall (!(((ix l1.Kernels p7).Sum || ((ix l1.Kernels p7).Store.Offset != (0 : Int))) || (!r20))) (spec_l11Product ((ix l1.Kernels p7).Loops))).bind fun (r22 : Int) =>
 if (((ix l1.Kernels p7).Sum || ((ix l1.Kernels p7).Store.Offset != (0 : Int))) || (!r20)) = false → (0 ≤ (ix l1.Kernels p7).Store.Buffer ∧ (ix l1.Kernels p7).Store.Buffer < (l1.Sizes.length : Int)) then
 (gcall (!((((ix l1.Kernels p7).Sum || ((ix l1.Kernels p7).Store.Offset != (0 : Int))) || (!r20)) || (r22 != (ix l1.Sizes (ix l1.Kernels p7).Store.Buffer)))) (spec_l7Has l1.Outs ((ix l1.Kernels p7).Store.Buffer))).bind fun (r27 : Bool) =>
 if (((((ix l1.Kernels p7).Sum || ((ix l1.Kernels p7).Store.Offset != (0 : Int))) || (!r20)) || (r22 != (ix l1.Sizes (ix l1.Kernels p7).Store.Buffer))) || r27) = true then (
 some false)
 else (
 (loopM (fun s : Int => spec_l11Whole_L1 l1 p7 s) (0 : Int)).bind fun e => match e with
 | .inl e => some e
 | .inr e => spec_l11Whole_J1)
 else none
 else none
def spec_l11Partners_J4 (a11 : Access) (x111 : (List Int)) : Option ((List Int) × Bool) :=
 some (x111, (a11.Offset == (0 : Int)))
def spec_l11Partners_L3 (c6 : Kernel) (a11 : Access) (x111 : (List Int)) (m121 : Int) : Option ((Int) ⊕ (((List Int) × Bool) ⊕ (Unit))) :=
 if (decide (m121 < (c6.Loops.length : Int))) = true then (
 (spec_l7Has x111 m121).bind fun (r123 : Bool) =>
 if (!r123) = true → (0 ≤ m121 ∧ m121 < (a11.Steps.length : Int)) then
 if ((!r123) && ((ix a11.Steps m121) != (0 : Int))) = true then (
 some (.inr (.inl (x111, false))))
 else (
 some (.inl (w64 (m121 + (1 : Int)))))
 else none)
 else (
 some (.inr (.inr ())))
def spec_l11Partners_J3 (c6 : Kernel) (a11 : Access) (x111 : (List Int)) : Option ((List Int) × Bool) :=
 (loopM (fun s : Int => spec_l11Partners_L3 c6 a11 x111 s) (0 : Int)).bind fun e => match e with
 | .inl e => some e
 | .inr e => spec_l11Partners_J4 a11 x111
def spec_l11Partners_J2 (c6 : Kernel) (x61 : (List Int)) (i63 : Int) (m103 : Int) : Option (((List Int) × Int) ⊕ (((List Int) × Bool) ⊕ ((List Int)))) :=
 if (m103 == (c6.Loops.length : Int)) = true then (
 some (.inr (.inl (x61, false))))
 else (
 if x61.length + ([m103] : List Int).length ≤ 17592186044416 then
 some (.inl ((x61 ++ ([m103] : List Int)), (w64 (i63 + (1 : Int)))))
 else none)
def spec_l11Partners_L2 (p1 : Kernel) (c6 : Kernel) (a11 : Access) (x61 : (List Int)) (i63 : Int) (m83 : Int) : Option ((Int) ⊕ (Int)) :=
 (gcall (decide (m83 < (c6.Loops.length : Int))) (spec_l7Has x61 m83)).bind fun (r84 : Bool) =>
 if (decide (m83 < (c6.Loops.length : Int))) = true → r84 = false → (0 ≤ m83 ∧ m83 < (c6.Loops.length : Int)) then
 if (decide (m83 < (c6.Loops.length : Int))) = true → r84 = false → (0 ≤ i63 ∧ i63 < (p1.Loops.length : Int)) then
 if (decide (m83 < (c6.Loops.length : Int))) = true → (r84 || ((ix c6.Loops m83) != (ix p1.Loops i63))) = false → (0 ≤ m83 ∧ m83 < (a11.Steps.length : Int)) then
 if (decide (m83 < (c6.Loops.length : Int))) = true → (r84 || ((ix c6.Loops m83) != (ix p1.Loops i63))) = false → (0 ≤ i63 ∧ i63 < (p1.Store.Steps.length : Int)) then
 if ((decide (m83 < (c6.Loops.length : Int))) && ((r84 || ((ix c6.Loops m83) != (ix p1.Loops i63))) || ((ix a11.Steps m83) != (ix p1.Store.Steps i63)))) = true then (
 some (.inl (w64 (m83 + (1 : Int)))))
 else (
 some (.inr m83))
 else none
 else none
 else none
 else none
def spec_l11Partners_L1 (p1 : Kernel) (c6 : Kernel) (a11 : Access) (x61 : (List Int)) (i63 : Int) : Option (((List Int) × Int) ⊕ (((List Int) × Bool) ⊕ ((List Int)))) :=
 if (decide (i63 < (p1.Loops.length : Int))) = true then (
 (loopM (fun s : Int => spec_l11Partners_L2 p1 c6 a11 x61 i63 s) (0 : Int)).bind fun e => spec_l11Partners_J2 c6 x61 i63 e)
 else (
 some (.inr (.inr x61)))
def spec_l11Partners (p1 : Kernel) (c6 : Kernel) (a11 : Access) : Option ((List Int) × Bool) :=
 (loopM (fun s : (List Int) × Int => spec_l11Partners_L1 p1 c6 a11 s.1 s.2) (([] : List Int), (0 : Int))).bind fun e => match e with
 | .inl e => some e
 | .inr e => spec_l11Partners_J3 c6 a11 e
def spec_l3Ints (a1 : (List Int)) : Option ((List Int)) :=
 if ([] : List Int).length + a1.length ≤ 17592186044416 then
 some (([] : List Int) ++ a1)
 else none
def spec_l11Into_J16 (c6 : Kernel) (r16 : (List Int)) (r19 : (List Int)) (x177 : (List Access)) (x298 : (List Calc)) : Option (Kernel) :=
 some (⟨r16, x177, (⟨c6.Store.Buffer, c6.Store.Offset, r19⟩ : Access), c6.Sum, x298⟩ : Kernel)
def spec_l11Into_J15 (i252 : Int) (x289 : (List Calc)) (value291 : (List Int)) : Option (((List Calc) × (List Int) × Int) ⊕ ((List Calc))) :=
 some (.inl (x289, value291, (w64 (i252 + (1 : Int)))))
def spec_l11Into_J14 (c6 : Kernel) (x248 : (List Calc)) (value250 : (List Int)) (i252 : Int) (x281 : Int) (x282 : Int) : Option (((List Calc) × (List Int) × Int) ⊕ ((List Calc))) :=
 if value250.length + ([(x248.length : Int)] : List Int).length ≤ 17592186044416 then
 if x248.length + ([(⟨(ix c6.Code i252).Op, x281, x282⟩ : Calc)] : List Calc).length ≤ 5864062014805 then
 spec_l11Into_J15 i252 (x248 ++ ([(⟨(ix c6.Code i252).Op, x281, x282⟩ : Calc)] : List Calc)) (value250 ++ ([(x248.length : Int)] : List Int))
 else none
 else none
def spec_l11Into_J13 (c6 : Kernel) (x248 : (List Calc)) (value250 : (List Int)) (i252 : Int) (x272 : Bool) : Option (((List Calc) × (List Int) × Int) ⊕ ((List Calc))) :=
 if x272 = true then (
 if (0 ≤ (ix c6.Code i252).A ∧ (ix c6.Code i252).A < (value250.length : Int)) then
 if (0 ≤ (ix c6.Code i252).B ∧ (ix c6.Code i252).B < (value250.length : Int)) then
 spec_l11Into_J14 c6 x248 value250 i252 (ix value250 (ix c6.Code i252).A) (ix value250 (ix c6.Code i252).B)
 else none
 else none)
 else (
 if (0 ≤ (ix c6.Code i252).A ∧ (ix c6.Code i252).A < (value250.length : Int)) then
 spec_l11Into_J14 c6 x248 value250 i252 (ix value250 (ix c6.Code i252).A) ((ix c6.Code i252).B)
 else none)
def spec_l11Into_L5 (p1 : Kernel) (c6 : Kernel) (to75 : (List Int)) (x248 : (List Calc)) (value250 : (List Int)) (i252 : Int) : Option (((List Calc) × (List Int) × Int) ⊕ ((List Calc))) :=
 if (decide (i252 < (c6.Code.length : Int))) = true then (
 if (0 ≤ i252 ∧ i252 < (c6.Code.length : Int)) then
 if ((ix c6.Code i252).Op == (1 : Int)) = true then (
 if (0 ≤ (ix c6.Code i252).A ∧ (ix c6.Code i252).A < (c6.Loads.length : Int)) then
 if ((ix c6.Loads (ix c6.Code i252).A).Buffer == p1.Store.Buffer) = true then (
 if value250.length + ([(w64 ((p1.Code.length : Int) - (1 : Int)))] : List Int).length ≤ 17592186044416 then
 spec_l11Into_J15 i252 x248 (value250 ++ ([(w64 ((p1.Code.length : Int) - (1 : Int)))] : List Int))
 else none)
 else (
 if (0 ≤ (ix c6.Code i252).A ∧ (ix c6.Code i252).A < (to75.length : Int)) then
 spec_l11Into_J14 c6 x248 value250 i252 (ix to75 (ix c6.Code i252).A) ((ix c6.Code i252).B)
 else none)
 else none)
 else (
 if ((ix c6.Code i252).Op == (2 : Int)) = true then (
 spec_l11Into_J14 c6 x248 value250 i252 ((ix c6.Code i252).A) ((ix c6.Code i252).B))
 else (
 if ((ix c6.Code i252).Op == (3 : Int)) = true then (
 spec_l11Into_J13 c6 x248 value250 i252 ((ix c6.Code i252).Op == (3 : Int)))
 else (
 if ((ix c6.Code i252).Op == (4 : Int)) = true then (
 spec_l11Into_J13 c6 x248 value250 i252 ((ix c6.Code i252).Op == (4 : Int)))
 else (
 spec_l11Into_J13 c6 x248 value250 i252 ((ix c6.Code i252).Op == (5 : Int))))))
 else none)
 else (
 some (.inr x248))
def spec_l11Into_J9 (p1 : Kernel) (c6 : Kernel) (r16 : (List Int)) (r19 : (List Int)) (to75 : (List Int)) (x177 : (List Access)) (x205 : (List Calc)) : Option (Kernel) :=
 (loopM (fun s : (List Calc) × (List Int) × Int => spec_l11Into_L5 p1 c6 to75 s.1 s.2.1 s.2.2) (x205, ([] : List Int), (0 : Int))).bind fun e => spec_l11Into_J16 c6 r16 r19 x177 e
def spec_l11Into_J8 (p1 : Kernel) (x189 : (List Calc)) (i191 : Int) (x198 : Int) : Option (((List Calc) × Int) ⊕ ((List Calc))) :=
 if x189.length + ([(⟨(ix p1.Code i191).Op, x198, (ix p1.Code i191).B⟩ : Calc)] : List Calc).length ≤ 5864062014805 then
 some (.inl ((x189 ++ ([(⟨(ix p1.Code i191).Op, x198, (ix p1.Code i191).B⟩ : Calc)] : List Calc)), (w64 (i191 + (1 : Int)))))
 else none
def spec_l11Into_L4 (p1 : Kernel) (x73 : (List Access)) (x189 : (List Calc)) (i191 : Int) : Option (((List Calc) × Int) ⊕ ((List Calc))) :=
 if (decide (i191 < (p1.Code.length : Int))) = true then (
 if (0 ≤ i191 ∧ i191 < (p1.Code.length : Int)) then
 if ((ix p1.Code i191).Op == (1 : Int)) = true then (
 spec_l11Into_J8 p1 x189 i191 (w64 ((ix p1.Code i191).A + (x73.length : Int))))
 else (
 spec_l11Into_J8 p1 x189 i191 ((ix p1.Code i191).A))
 else none)
 else (
 some (.inr x189))
def spec_l11Into_J6 (p1 : Kernel) (c6 : Kernel) (r16 : (List Int)) (r19 : (List Int)) (x73 : (List Access)) (to75 : (List Int)) (x177 : (List Access)) : Option (Kernel) :=
 (loopM (fun s : (List Calc) × Int => spec_l11Into_L4 p1 x73 s.1 s.2) (([] : List Calc), (0 : Int))).bind fun e => spec_l11Into_J9 p1 c6 r16 r19 to75 x177 e
def spec_l11Into_J5 (p1 : Kernel) (x124 : (List Access)) (i126 : Int) (a170 : (List Int)) : Option (((List Access) × Int) ⊕ ((List Access))) :=
 if x124.length + ([(⟨(ix p1.Loads i126).Buffer, (ix p1.Loads i126).Offset, a170⟩ : Access)] : List Access).length ≤ 3518437208883 then
 some (.inl ((x124 ++ ([(⟨(ix p1.Loads i126).Buffer, (ix p1.Loads i126).Offset, a170⟩ : Access)] : List Access)), (w64 (i126 + (1 : Int)))))
 else none
def spec_l11Into_L3 (p1 : Kernel) (c6 : Kernel) (partners11 : (List Int)) (i126 : Int) (a151 : (List Int)) (j152 : Int) : Option (((List Int) × Int) ⊕ ((List Int))) :=
 if (decide (j152 < (partners11.length : Int))) = true then (
 if (0 ≤ j152 ∧ j152 < (partners11.length : Int)) then
 if (0 ≤ j152 ∧ j152 < (((ix p1.Loads i126).Steps).length : Int)) then
 if (0 ≤ (ix partners11 j152) ∧ (ix partners11 j152) < ((List.replicate (c6.Loops.length : Int).toNat (0 : Int)).length : Int)) then
 (nm (a151.set (ix partners11 j152).toNat (ix ((ix p1.Loads i126).Steps) j152))).bind fun (l166 : (List Int)) =>
 some (.inl (l166, (w64 (j152 + (1 : Int)))))
 else none
 else none
 else none)
 else (
 some (.inr a151))
def spec_l11Into_L2 (p1 : Kernel) (c6 : Kernel) (partners11 : (List Int)) (x124 : (List Access)) (i126 : Int) : Option (((List Access) × Int) ⊕ ((List Access))) :=
 if (decide (i126 < (p1.Loads.length : Int))) = true then (
 if (0 ≤ i126 ∧ i126 < (p1.Loads.length : Int)) then
 if (0 ≤ (c6.Loops.length : Int) ∧ (c6.Loops.length : Int) ≤ 140737488355328 ∧ 8 * (c6.Loops.length : Int) ≤ 281474976710656) then
 (loopM (fun s : (List Int) × Int => spec_l11Into_L3 p1 c6 partners11 i126 s.1 s.2) ((List.replicate (c6.Loops.length : Int).toNat (0 : Int)), (0 : Int))).bind fun e => spec_l11Into_J5 p1 x124 i126 e
 else none
 else none)
 else (
 some (.inr x124))
def spec_l11Into_J3 (p1 : Kernel) (c6 : Kernel) (partners11 : (List Int)) (r16 : (List Int)) (r19 : (List Int)) (x73 : (List Access)) (to75 : (List Int)) : Option (Kernel) :=
 (loopM (fun s : (List Access) × Int => spec_l11Into_L2 p1 c6 partners11 s.1 s.2) (x73, (0 : Int))).bind fun e => spec_l11Into_J6 p1 c6 r16 r19 x73 to75 e
def spec_l11Into_J2 (x45 : (List Access)) (to47 : (List Int)) (i49 : Int) (x65 : (List Access)) : Option (((List Access) × (List Int) × Int) ⊕ ((List Access) × (List Int))) :=
 some (.inl (x65, (to47 ++ ([(x45.length : Int)] : List Int)), (w64 (i49 + (1 : Int)))))
def spec_l11Into_L1 (p1 : Kernel) (c6 : Kernel) (x45 : (List Access)) (to47 : (List Int)) (i49 : Int) : Option (((List Access) × (List Int) × Int) ⊕ ((List Access) × (List Int))) :=
 if (decide (i49 < (c6.Loads.length : Int))) = true then (
 if to47.length + ([(x45.length : Int)] : List Int).length ≤ 17592186044416 then
 if (0 ≤ i49 ∧ i49 < (c6.Loads.length : Int)) then
 if ((ix c6.Loads i49).Buffer != p1.Store.Buffer) = true then (
 (spec_l3Ints ((ix c6.Loads i49).Steps)).bind fun (r59 : (List Int)) =>
 if x45.length + ([(⟨(ix c6.Loads i49).Buffer, (ix c6.Loads i49).Offset, r59⟩ : Access)] : List Access).length ≤ 3518437208883 then
 spec_l11Into_J2 x45 to47 i49 (x45 ++ ([(⟨(ix c6.Loads i49).Buffer, (ix c6.Loads i49).Offset, r59⟩ : Access)] : List Access))
 else none)
 else (
 spec_l11Into_J2 x45 to47 i49 x45)
 else none
 else none)
 else (
 some (.inr (x45, to47)))
def spec_l11Into (p1 : Kernel) (c6 : Kernel) (partners11 : (List Int)) : Option (Kernel) :=
 (spec_l3Ints c6.Loops).bind fun (r16 : (List Int)) =>
 (spec_l3Ints c6.Store.Steps).bind fun (r19 : (List Int)) =>
 (loopM (fun s : (List Access) × (List Int) × Int => spec_l11Into_L1 p1 c6 s.1 s.2.1 s.2.2) (([] : List Access), ([] : List Int), (0 : Int))).bind fun e => spec_l11Into_J3 p1 c6 partners11 r16 r19 e.1 e.2
def spec_l11Try_J4 (l1 : Nest) (x142 : (List Kernel)) : Option (Nest × Bool) :=
 some ((⟨l1.Sizes, l1.Ins, l1.Fixed, x142, l1.Outs⟩ : Nest), true)
def spec_l11Try_J3 (i122 : Int) (x137 : (List Kernel)) : Option (((List Kernel) × Int) ⊕ ((List Kernel))) :=
 some (.inl (x137, (w64 (i122 + (1 : Int)))))
def spec_l11Try_L2 (l1 : Nest) (p7 : Int) (r18 : Int) (r87 : Kernel) (x120 : (List Kernel)) (i122 : Int) : Option (((List Kernel) × Int) ⊕ ((List Kernel))) :=
 if (decide (i122 < (l1.Kernels.length : Int))) = true then (
 if (i122 == p7) = true then (
 spec_l11Try_J3 i122 x120)
 else (
 if (i122 == r18) = true then (
 if x120.length + ([r87] : List Kernel).length ≤ 1172812402961 then
 spec_l11Try_J3 i122 (x120 ++ ([r87] : List Kernel))
 else none)
 else (
 if (0 ≤ i122 ∧ i122 < (l1.Kernels.length : Int)) then
 if x120.length + ([(ix l1.Kernels i122)] : List Kernel).length ≤ 1172812402961 then
 spec_l11Try_J3 i122 (x120 ++ ([(ix l1.Kernels i122)] : List Kernel))
 else none
 else none)))
 else (
 some (.inr x120))
def spec_l11Try_J1 (l1 : Nest) (p7 : Int) (r18 : Int) (partners81 : (List Int)) : Option (Nest × Bool) :=
 (spec_l11Into (ix l1.Kernels p7) (ix l1.Kernels r18) partners81).bind fun (r87 : Kernel) =>
 if (((decide ((r87.Loads.length : Int) > (30 : Int))) || (decide ((r87.Code.length : Int) > (60 : Int)))) || ((r87.Code.length : Int) == (0 : Int))) = true then (
 some (l1, false))
 else (
 (loopM (fun s : (List Kernel) × Int => spec_l11Try_L2 l1 p7 r18 r87 s.1 s.2) (([] : List Kernel), (0 : Int))).bind fun e => spec_l11Try_J4 l1 e)
def spec_l11Try_L1 (l1 : Nest) (p7 : Int) (r18 : Int) (r29 : (List Int)) (partners54 : (List Int)) (i56 : Int) : Option (((List Int) × Int) ⊕ ((Nest × Bool) ⊕ ((List Int)))) :=
 if (decide (i56 < (r29.length : Int))) = true then (
 if (0 ≤ i56 ∧ i56 < (r29.length : Int)) then
 if (0 ≤ (ix r29 i56) ∧ (ix r29 i56) < (((ix l1.Kernels r18).Loads).length : Int)) then
 (spec_l11Partners (ix l1.Kernels p7) (ix l1.Kernels r18) (ix ((ix l1.Kernels r18).Loads) (ix r29 i56))).bind fun (r69 : (List Int) × Bool) =>
 (gcall ((!(!r69.2)) && (decide (i56 > (0 : Int)))) (spec_l3SameInts r69.1 partners54)).bind fun (r72 : Bool) =>
 if ((!r69.2) || ((decide (i56 > (0 : Int))) && (!r72))) = true then (
 some (.inr (.inl (l1, false))))
 else (
 some (.inl (r69.1, (w64 (i56 + (1 : Int))))))
 else none
 else none)
 else (
 some (.inr (.inr partners54)))
def spec_l11Try (l1 : Nest) (p7 : Int) : Option (Nest × Bool) :=
 if (0 ≤ p7 ∧ p7 < (l1.Kernels.length : Int)) then
 (spec_l11Reader l1.Kernels ((ix l1.Kernels p7).Store.Buffer)).bind fun (r18 : Int) =>
 (gcall (!(decide (r18 ≤ p7))) (spec_l11Whole l1 p7)).bind fun (r20 : Bool) =>
 if ((decide (r18 ≤ p7)) || (!r20)) = true then (
 some (l1, false))
 else (
 if (0 ≤ r18 ∧ r18 < (l1.Kernels.length : Int)) then
 (spec_l11Uses (ix l1.Kernels r18) ((ix l1.Kernels p7).Store.Buffer)).bind fun (r29 : (List Int)) =>
 (loopM (fun s : (List Int) × Int => spec_l11Try_L1 l1 p7 r18 r29 s.1 s.2) (([] : List Int), (0 : Int))).bind fun e => match e with
 | .inl e => some e
 | .inr e => spec_l11Try_J1 l1 p7 r18 e
 else none)
 else none
def spec_l11CopyKernel_J1 (k1 : Kernel) (r8 : (List Int)) (r11 : (List Int)) (x50 : (List Access)) : Option (Kernel) :=
 some (⟨r8, x50, (⟨k1.Store.Buffer, k1.Store.Offset, r11⟩ : Access), k1.Sum, (([] : List Calc) ++ k1.Code)⟩ : Kernel)
def spec_l11CopyKernel_L1 (k1 : Kernel) (x33 : (List Access)) (i35 : Int) : Option (((List Access) × Int) ⊕ ((List Access))) :=
 if (decide (i35 < (k1.Loads.length : Int))) = true then (
 if (0 ≤ i35 ∧ i35 < (k1.Loads.length : Int)) then
 (spec_l3Ints ((ix k1.Loads i35).Steps)).bind fun (r41 : (List Int)) =>
 if x33.length + ([(⟨(ix k1.Loads i35).Buffer, (ix k1.Loads i35).Offset, r41⟩ : Access)] : List Access).length ≤ 3518437208883 then
 some (.inl ((x33 ++ ([(⟨(ix k1.Loads i35).Buffer, (ix k1.Loads i35).Offset, r41⟩ : Access)] : List Access)), (w64 (i35 + (1 : Int)))))
 else none
 else none)
 else (
 some (.inr x33))
def spec_l11CopyKernel (k1 : Kernel) : Option (Kernel) :=
 (spec_l3Ints k1.Loops).bind fun (r8 : (List Int)) =>
 (spec_l3Ints k1.Store.Steps).bind fun (r11 : (List Int)) =>
 if ([] : List Calc).length + k1.Code.length ≤ 5864062014805 then
 (loopM (fun s : (List Access) × Int => spec_l11CopyKernel_L1 k1 s.1 s.2) (([] : List Access), (0 : Int))).bind fun e => spec_l11CopyKernel_J1 k1 r8 r11 e
 else none
def spec_l11CopyNest_J2 (r9 : (List Int)) (r12 : (List Int)) (r15 : (List Int)) (x51 : (List Fix)) (x93 : (List Kernel)) : Option (Nest) :=
 some (⟨r9, r12, x51, x93, r15⟩ : Nest)
def spec_l11CopyNest_L2 (l1 : Nest) (x70 : (List Kernel)) (i72 : Int) : Option (((List Kernel) × Int) ⊕ ((List Kernel))) :=
 if (decide (i72 < (l1.Kernels.length : Int))) = true then (
 if (0 ≤ i72 ∧ i72 < (l1.Kernels.length : Int)) then
 (spec_l11CopyKernel (ix l1.Kernels i72)).bind fun (r81 : Kernel) =>
 if x70.length + ([r81] : List Kernel).length ≤ 1172812402961 then
 some (.inl ((x70 ++ ([r81] : List Kernel)), (w64 (i72 + (1 : Int)))))
 else none
 else none)
 else (
 some (.inr x70))
def spec_l11CopyNest_J1 (l1 : Nest) (r9 : (List Int)) (r12 : (List Int)) (r15 : (List Int)) (x51 : (List Fix)) : Option (Nest) :=
 (loopM (fun s : (List Kernel) × Int => spec_l11CopyNest_L2 l1 s.1 s.2) (([] : List Kernel), (0 : Int))).bind fun e => spec_l11CopyNest_J2 r9 r12 r15 x51 e
def spec_l11CopyNest_L1 (l1 : Nest) (x34 : (List Fix)) (i36 : Int) : Option (((List Fix) × Int) ⊕ ((List Fix))) :=
 if (decide (i36 < (l1.Fixed.length : Int))) = true then (
 if (0 ≤ i36 ∧ i36 < (l1.Fixed.length : Int)) then
 (spec_l3Ints ((ix l1.Fixed i36).Data)).bind fun (r42 : (List Int)) =>
 if x34.length + ([(⟨(ix l1.Fixed i36).Buffer, r42⟩ : Fix)] : List Fix).length ≤ 4398046511104 then
 some (.inl ((x34 ++ ([(⟨(ix l1.Fixed i36).Buffer, r42⟩ : Fix)] : List Fix)), (w64 (i36 + (1 : Int)))))
 else none
 else none)
 else (
 some (.inr x34))
def spec_l11CopyNest (l1 : Nest) : Option (Nest) :=
 (spec_l3Ints l1.Sizes).bind fun (r9 : (List Int)) =>
 (spec_l3Ints l1.Ins).bind fun (r12 : (List Int)) =>
 (spec_l3Ints l1.Outs).bind fun (r15 : (List Int)) =>
 (loopM (fun s : (List Fix) × Int => spec_l11CopyNest_L1 l1 s.1 s.2) (([] : List Fix), (0 : Int))).bind fun e => spec_l11CopyNest_J1 l1 r9 r12 r15 e
def spec_Fuse_J1 (l54 : (List Int)) (l56 : (List Int)) (l58 : (List Fix)) (l60 : (List Kernel)) (l62 : (List Int)) : Option (Nest) :=
 (spec_l11CopyNest (⟨l54, l56, l58, l60, l62⟩ : Nest)).bind fun (r64 : Nest) =>
 some r64
def spec_Fuse_L1 (l22 : (List Int)) (l24 : (List Int)) (l26 : (List Fix)) (l28 : (List Kernel)) (l30 : (List Int)) (x32 : Int) : Option (((List Int) × (List Int) × (List Fix) × (List Kernel) × (List Int) × Int) ⊕ ((List Int) × (List Int) × (List Fix) × (List Kernel) × (List Int))) :=
 if (decide (x32 < (l28.length : Int))) = true then (
 (spec_l11Try (⟨l22, l24, l26, l28, l30⟩ : Nest) x32).bind fun (r34 : Nest × Bool) =>
 if r34.2 = true then (
 some (.inl (r34.1.Sizes, r34.1.Ins, r34.1.Fixed, r34.1.Kernels, r34.1.Outs, (0 : Int))))
 else (
 some (.inl (l22, l24, l26, l28, l30, (w64 (x32 + (1 : Int)))))))
 else (
 some (.inr (l22, l24, l26, l28, l30)))
def spec_Fuse (l1 : Nest) : Option (Nest) :=
 (spec_NestOk l1).bind fun (r9 : Bool) =>
 if (!r9) = true then (
 some (⟨([] : List Int), ([] : List Int), ([] : List Fix), ([] : List Kernel), ([] : List Int)⟩ : Nest))
 else (
 (loopM (fun s : (List Int) × (List Int) × (List Fix) × (List Kernel) × (List Int) × Int => spec_Fuse_L1 s.1 s.2.1 s.2.2.1 s.2.2.2.1 s.2.2.2.2.1 s.2.2.2.2.2) (l1.Sizes, l1.Ins, l1.Fixed, l1.Kernels, l1.Outs, (0 : Int))).bind fun e => spec_Fuse_J1 e.1 e.2.1 e.2.2.1 e.2.2.2.1 e.2.2.2.2)
def impl_Nest_given_1 (b1 : Int) (p2 : (List Bool)) : Option (Bool × (List Bool)) :=
 if ((decide (b1 < (0 : Int))) || (decide (b1 ≥ (p2.length : Int)))) = false → (0 ≤ b1 ∧ b1 < (p2.length : Int)) then
 if (((decide (b1 < (0 : Int))) || (decide (b1 ≥ (p2.length : Int)))) || (ix p2 b1)) = true then (
 some (false, p2))
 else (
 if (0 ≤ b1 ∧ b1 < (p2.length : Int)) then
 some (true, (p2.set b1.toNat true))
 else none)
 else none
def impl_isNum (p1 : Int) : Option (Bool) :=
 some ((decide (p1 ≥ (0 : Int))) && (decide (p1 < (2147483647 : Int))))
def impl_allNums_J1 : Option (Bool) :=
 some true
def impl_allNums_L1 (xs1 : (List Int)) (x10 : Int) : Option ((Int) ⊕ ((Bool) ⊕ (Unit))) :=
 if (decide (x10 < (xs1.length : Int))) = true then (
 if (0 ≤ x10 ∧ x10 < (xs1.length : Int)) then
 (impl_isNum (ix xs1 x10)).bind fun (r15 : Bool) =>
 if (!r15) = true then (
 some (.inr (.inl false)))
 else (
 some (.inl (w64 (x10 + (1 : Int)))))
 else none)
 else (
 some (.inr (.inr ())))
def impl_allNums (xs1 : (List Int)) : Option (Bool) :=
 (loopM (fun s : Int => impl_allNums_L1 xs1 s) (0 : Int)).bind fun e => match e with
 | .inl e => some e
 | .inr e => impl_allNums_J1
def impl_Nest_given_J2 (x79 : (List Bool)) : Option ((List Bool) × Bool) :=
 some (x79, true)
def impl_Nest_given_L2 (l1 : Nest) (x53 : (List Bool)) (x56 : Int) : Option (((List Bool) × Int) ⊕ (((List Bool) × Bool) ⊕ ((List Bool)))) :=
 if (decide (x56 < (l1.Fixed.length : Int))) = true then (
 if (0 ≤ x56 ∧ x56 < (l1.Fixed.length : Int)) then
 (impl_Nest_given_1 ((ix l1.Fixed x56).Buffer) x53).bind fun (r63 : Bool × (List Bool)) =>
 if (!r63.1) = false → (0 ≤ (ix l1.Fixed x56).Buffer ∧ (ix l1.Fixed x56).Buffer < (l1.Sizes.length : Int)) then
 (gcall (!((!r63.1) || ((((ix l1.Fixed x56).Data).length : Int) != (ix l1.Sizes (ix l1.Fixed x56).Buffer)))) (impl_allNums ((ix l1.Fixed x56).Data))).bind fun (r69 : Bool) =>
 if (((!r63.1) || ((((ix l1.Fixed x56).Data).length : Int) != (ix l1.Sizes (ix l1.Fixed x56).Buffer))) || (!r69)) = true then (
 some (.inr (.inl (([] : List Bool), false))))
 else (
 some (.inl (r63.2, (w64 (x56 + (1 : Int))))))
 else none
 else none)
 else (
 some (.inr (.inr x53)))
def impl_Nest_given_J1 (l1 : Nest) (x33 : (List Bool)) : Option ((List Bool) × Bool) :=
 (loopM (fun s : (List Bool) × Int => impl_Nest_given_L2 l1 s.1 s.2) (x33, (0 : Int))).bind fun e => match e with
 | .inl e => some e
 | .inr e => impl_Nest_given_J2 e
def impl_Nest_given_L1 (l1 : Nest) (x19 : (List Bool)) (x21 : Int) : Option (((List Bool) × Int) ⊕ (((List Bool) × Bool) ⊕ ((List Bool)))) :=
 if (decide (x21 < (l1.Ins.length : Int))) = true then (
 if (0 ≤ x21 ∧ x21 < (l1.Ins.length : Int)) then
 (impl_Nest_given_1 (ix l1.Ins x21) x19).bind fun (r26 : Bool × (List Bool)) =>
 if (!r26.1) = true then (
 some (.inr (.inl (([] : List Bool), false))))
 else (
 some (.inl (r26.2, (w64 (x21 + (1 : Int))))))
 else none)
 else (
 some (.inr (.inr x19)))
def impl_Nest_given (l1 : Nest) : Option ((List Bool) × Bool) :=
 if (0 ≤ (l1.Sizes.length : Int) ∧ (l1.Sizes.length : Int) ≤ 140737488355328 ∧ 1 * (l1.Sizes.length : Int) ≤ 281474976710656) then
 (loopM (fun s : (List Bool) × Int => impl_Nest_given_L1 l1 s.1 s.2) ((List.replicate (l1.Sizes.length : Int).toNat false), (0 : Int))).bind fun e => match e with
 | .inl e => some e
 | .inr e => impl_Nest_given_J1 l1 e
 else none
def impl_work_J1 (loops1 : (List Int)) (n24 : Int) : Option (Int × Bool) :=
 some (n24, (decide ((loops1.length : Int) ≤ (12 : Int))))
def impl_work_L1 (loops1 : (List Int)) (n11 : Int) (x12 : Int) : Option ((Int × Int) ⊕ ((Int × Bool) ⊕ (Int))) :=
 if (decide (x12 < (loops1.length : Int))) = true then (
 if (0 ≤ x12 ∧ x12 < (loops1.length : Int)) then
 if ((decide ((ix loops1 x12) < (1 : Int))) || (decide ((ix loops1 x12) > (65536 : Int)))) = true then (
 some (.inr (.inl ((0 : Int), false))))
 else (
 if (decide ((w64 (n11 * (ix loops1 x12))) > (65536 : Int))) = true then (
 some (.inr (.inl ((0 : Int), false))))
 else (
 some (.inl ((w64 (n11 * (ix loops1 x12))), (w64 (x12 + (1 : Int)))))))
 else none)
 else (
 some (.inr (.inr n11)))
def impl_work (loops1 : (List Int)) : Option (Int × Bool) :=
 (loopM (fun s : Int × Int => impl_work_L1 loops1 s.1 s.2) ((1 : Int), (0 : Int))).bind fun e => match e with
 | .inl e => some e
 | .inr e => impl_work_J1 loops1 e
def impl_codeOk_J7 : Option (Bool) :=
 some true
def impl_codeOk_J6 (x35 : Int) (ok62 : Bool) : Option ((Int) ⊕ ((Bool) ⊕ (Unit))) :=
 if (!ok62) = true then (
 some (.inr (.inl false)))
 else (
 some (.inl (w64 (x35 + (1 : Int)))))
def impl_codeOk_J5 (code1 : (List Calc)) (x35 : Int) (x58 : Bool) : Option ((Int) ⊕ ((Bool) ⊕ (Unit))) :=
 if x58 = true then (
 impl_codeOk_J6 x35 (((decide ((ix code1 x35).A ≥ (0 : Int))) && (decide ((ix code1 x35).A < x35))) && ((ix code1 x35).B == (0 : Int))))
 else (
 impl_codeOk_J6 x35 false)
def impl_codeOk_J4 (code1 : (List Calc)) (x35 : Int) (x50 : Bool) : Option ((Int) ⊕ ((Bool) ⊕ (Unit))) :=
 if x50 = true then (
 impl_codeOk_J6 x35 ((((decide ((ix code1 x35).A ≥ (0 : Int))) && (decide ((ix code1 x35).A < x35))) && (decide ((ix code1 x35).B ≥ (0 : Int)))) && (decide ((ix code1 x35).B < x35))))
 else (
 if ((ix code1 x35).Op == (6 : Int)) = true then (
 impl_codeOk_J5 code1 x35 ((ix code1 x35).Op == (6 : Int)))
 else (
 if ((ix code1 x35).Op == (7 : Int)) = true then (
 impl_codeOk_J5 code1 x35 ((ix code1 x35).Op == (7 : Int)))
 else (
 if ((ix code1 x35).Op == (8 : Int)) = true then (
 impl_codeOk_J5 code1 x35 ((ix code1 x35).Op == (8 : Int)))
 else (
 impl_codeOk_J5 code1 x35 ((ix code1 x35).Op == (9 : Int))))))
def impl_codeOk_L1 (code1 : (List Calc)) (loads3 : Int) (x35 : Int) : Option ((Int) ⊕ ((Bool) ⊕ (Unit))) :=
 if (decide (x35 < (code1.length : Int))) = true then (
 if (0 ≤ x35 ∧ x35 < (code1.length : Int)) then
 if ((ix code1 x35).Op == (1 : Int)) = true then (
 impl_codeOk_J6 x35 (((decide ((ix code1 x35).A ≥ (0 : Int))) && (decide ((ix code1 x35).A < loads3))) && ((ix code1 x35).B == (0 : Int))))
 else (
 if ((ix code1 x35).Op == (2 : Int)) = true then (
 (impl_isNum ((ix code1 x35).A)).bind fun (r45 : Bool) =>
 impl_codeOk_J6 x35 (r45 && ((ix code1 x35).B == (0 : Int))))
 else (
 if ((ix code1 x35).Op == (3 : Int)) = true then (
 impl_codeOk_J4 code1 x35 ((ix code1 x35).Op == (3 : Int)))
 else (
 if ((ix code1 x35).Op == (4 : Int)) = true then (
 impl_codeOk_J4 code1 x35 ((ix code1 x35).Op == (4 : Int)))
 else (
 impl_codeOk_J4 code1 x35 ((ix code1 x35).Op == (5 : Int))))))
 else none)
 else (
 some (.inr (.inr ())))
def impl_codeOk (code1 : (List Calc)) (loads3 : Int) : Option (Bool) :=
 if ((decide ((code1.length : Int) < (1 : Int))) || (decide ((code1.length : Int) > (60 : Int)))) = true then (
 some false)
 else (
 (loopM (fun s : Int => impl_codeOk_L1 code1 loads3 s) (0 : Int)).bind fun e => match e with
 | .inl e => some e
 | .inr e => impl_codeOk_J7)
def slices_Clone_impl_Access_impl_Access (s1 : List Access) : Option (List Access) :=
 if s1.length ≤ 3518437208883 then some s1 else none
def impl_Access_fitsIn_J1 (size5 : Int) (lo46 : Int) (hi47 : Int) : Option (Bool) :=
 some ((decide (lo46 ≥ (0 : Int))) && (decide (hi47 < size5)))
def impl_Access_fitsIn_L1 (a1 : Access) (loops3 : (List Int)) (lo24 : Int) (hi25 : Int) (x27 : Int) : Option ((Int × Int × Int) ⊕ ((Bool) ⊕ (Int × Int))) :=
 if (decide (x27 < (a1.Steps.length : Int))) = true then (
 if (0 ≤ x27 ∧ x27 < (a1.Steps.length : Int)) then
 if ((decide ((ix a1.Steps x27) < (-4096 : Int))) || (decide ((ix a1.Steps x27) > (4096 : Int)))) = false → (0 ≤ x27 ∧ x27 < (loops3.length : Int)) then
 if (((decide ((ix a1.Steps x27) < (-4096 : Int))) || (decide ((ix a1.Steps x27) > (4096 : Int)))) || (((ix loops3 x27) == (1 : Int)) && ((ix a1.Steps x27) != (0 : Int)))) = true then (
 some (.inr (.inl false)))
 else (
 if (0 ≤ x27 ∧ x27 < (loops3.length : Int)) then
 some (.inl ((w64 (lo24 + (if (w64 ((ix a1.Steps x27) * (w64 ((ix loops3 x27) - (1 : Int))))) < (0 : Int) then (w64 ((ix a1.Steps x27) * (w64 ((ix loops3 x27) - (1 : Int))))) else (0 : Int)))), (w64 (hi25 + (if (w64 ((ix a1.Steps x27) * (w64 ((ix loops3 x27) - (1 : Int))))) > (0 : Int) then (w64 ((ix a1.Steps x27) * (w64 ((ix loops3 x27) - (1 : Int))))) else (0 : Int)))), (w64 (x27 + (1 : Int)))))
 else none)
 else none
 else none)
 else (
 some (.inr (.inr (lo24, hi25))))
def impl_Access_fitsIn (a1 : Access) (loops3 : (List Int)) (size5 : Int) : Option (Bool) :=
 if ((((a1.Steps.length : Int) != (loops3.length : Int)) || (decide (a1.Offset < (0 : Int)))) || (decide (a1.Offset ≥ size5))) = true then (
 some false)
 else (
 (loopM (fun s : Int × Int × Int => impl_Access_fitsIn_L1 a1 loops3 s.1 s.2.1 s.2.2) (a1.Offset, a1.Offset, (0 : Int))).bind fun e => match e with
 | .inl e => some e
 | .inr e => impl_Access_fitsIn_J1 size5 e.1 e.2)
def impl_Nest_kernelOk_J2 (k7 : Kernel) (given12 : (List Bool)) (r16 : Int × Bool) : Option (Int × Bool) :=
 if (0 ≤ k7.Store.Buffer ∧ k7.Store.Buffer < (given12.length : Int)) then
 some (r16.1, (!(ix given12 k7.Store.Buffer)))
 else none
def impl_Nest_kernelOk_L2 (k7 : Kernel) (x69 : Int) : Option ((Int) ⊕ ((Int × Bool) ⊕ (Unit))) :=
 if (decide (x69 < (k7.Loads.length : Int))) = true then (
 if (0 ≤ x69 ∧ x69 < (k7.Loads.length : Int)) then
 if ((ix k7.Loads x69).Buffer == k7.Store.Buffer) = true then (
 some (.inr (.inl ((0 : Int), false))))
 else (
 some (.inl (w64 (x69 + (1 : Int)))))
 else none)
 else (
 some (.inr (.inr ())))
def impl_Nest_kernelOk_J1 (k7 : Kernel) (given12 : (List Bool)) (r16 : Int × Bool) : Option (Int × Bool) :=
 (loopM (fun s : Int => impl_Nest_kernelOk_L2 k7 s) (0 : Int)).bind fun e => match e with
 | .inl e => some e
 | .inr e => impl_Nest_kernelOk_J2 k7 given12 r16
def impl_Nest_kernelOk_L1 (l1 : Nest) (k7 : Kernel) (r23 : (List Access)) (x45 : Int) : Option ((Int) ⊕ ((Int × Bool) ⊕ (Unit))) :=
 if (decide (x45 < ((r23 ++ ([k7.Store] : List Access)).length : Int))) = true then (
 if (0 ≤ x45 ∧ x45 < ((r23 ++ ([k7.Store] : List Access)).length : Int)) then
 if ((decide ((ix (r23 ++ ([k7.Store] : List Access)) x45).Buffer < (0 : Int))) || (decide ((ix (r23 ++ ([k7.Store] : List Access)) x45).Buffer ≥ (l1.Sizes.length : Int)))) = false → (0 ≤ (ix (r23 ++ ([k7.Store] : List Access)) x45).Buffer ∧ (ix (r23 ++ ([k7.Store] : List Access)) x45).Buffer < (l1.Sizes.length : Int)) then
 (gcall (!((decide ((ix (r23 ++ ([k7.Store] : List Access)) x45).Buffer < (0 : Int))) || (decide ((ix (r23 ++ ([k7.Store] : List Access)) x45).Buffer ≥ (l1.Sizes.length : Int))))) (impl_Access_fitsIn (ix (r23 ++ ([k7.Store] : List Access)) x45) k7.Loops (ix l1.Sizes (ix (r23 ++ ([k7.Store] : List Access)) x45).Buffer))).bind fun (r55 : Bool) =>
 if (((decide ((ix (r23 ++ ([k7.Store] : List Access)) x45).Buffer < (0 : Int))) || (decide ((ix (r23 ++ ([k7.Store] : List Access)) x45).Buffer ≥ (l1.Sizes.length : Int)))) || (!r55)) = true then (
 some (.inr (.inl ((0 : Int), false))))
 else (
 some (.inl (w64 (x45 + (1 : Int)))))
 else none
 else none)
 else (
 some (.inr (.inr ())))
def impl_Nest_kernelOk (l1 : Nest) (k7 : Kernel) (given12 : (List Bool)) : Option (Int × Bool) :=
 (impl_work k7.Loops).bind fun (r16 : Int × Bool) =>
 (gcall (!((!r16.2) || (decide ((k7.Loads.length : Int) > (30 : Int))))) (impl_codeOk k7.Code (k7.Loads.length : Int))).bind fun (r18 : Bool) =>
 if (((!r16.2) || (decide ((k7.Loads.length : Int) > (30 : Int)))) || (!r18)) = true then (
 some ((0 : Int), false))
 else (
 (slices_Clone_impl_Access_impl_Access k7.Loads).bind fun (r23 : (List Access)) =>
 if r23.length + ([k7.Store] : List Access).length ≤ 3518437208883 then
 (loopM (fun s : Int => impl_Nest_kernelOk_L1 l1 k7 r23 s) (0 : Int)).bind fun e => match e with
 | .inl e => some e
 | .inr e => impl_Nest_kernelOk_J1 k7 given12 r16
 else none)
def impl_NestOk_J3 (sum76 : Int) : Option (Bool) :=
 some (decide (sum76 ≤ (1000000 : Int)))
def impl_NestOk_L3 (l1 : Nest) (r44 : (List Bool) × Bool) (sum60 : Int) (x61 : Int) : Option ((Int × Int) ⊕ ((Bool) ⊕ (Int))) :=
 if (decide (x61 < (l1.Kernels.length : Int))) = true then (
 if (0 ≤ x61 ∧ x61 < (l1.Kernels.length : Int)) then
 (impl_Nest_kernelOk l1 (ix l1.Kernels x61) r44.1).bind fun (r71 : Int × Bool) =>
 if (!r71.2) = true then (
 some (.inr (.inl false)))
 else (
 some (.inl ((w64 (sum60 + r71.1)), (w64 (x61 + (1 : Int))))))
 else none)
 else (
 some (.inr (.inr sum60)))
def impl_NestOk_J2 (l1 : Nest) : Option (Bool) :=
 (impl_Nest_given l1).bind fun (r44 : (List Bool) × Bool) =>
 if (!r44.2) = true then (
 some false)
 else (
 (loopM (fun s : Int × Int => impl_NestOk_L3 l1 r44 s.1 s.2) ((0 : Int), (0 : Int))).bind fun e => match e with
 | .inl e => some e
 | .inr e => impl_NestOk_J3 e)
def impl_NestOk_L2 (l1 : Nest) (x35 : Int) : Option ((Int) ⊕ ((Bool) ⊕ (Unit))) :=
 if (decide (x35 < (l1.Outs.length : Int))) = true then (
 if (0 ≤ x35 ∧ x35 < (l1.Outs.length : Int)) then
 if ((decide ((ix l1.Outs x35) < (0 : Int))) || (decide ((ix l1.Outs x35) ≥ (l1.Sizes.length : Int)))) = true then (
 some (.inr (.inl false)))
 else (
 some (.inl (w64 (x35 + (1 : Int)))))
 else none)
 else (
 some (.inr (.inr ())))
def impl_NestOk_J1 (l1 : Nest) : Option (Bool) :=
 (loopM (fun s : Int => impl_NestOk_L2 l1 s) (0 : Int)).bind fun e => match e with
 | .inl e => some e
 | .inr e => impl_NestOk_J2 l1
def impl_NestOk_L1 (l1 : Nest) (x19 : Int) : Option ((Int) ⊕ ((Bool) ⊕ (Unit))) :=
 if (decide (x19 < (l1.Sizes.length : Int))) = true then (
 if (0 ≤ x19 ∧ x19 < (l1.Sizes.length : Int)) then
 if ((decide ((ix l1.Sizes x19) < (0 : Int))) || (decide ((ix l1.Sizes x19) > (4096 : Int)))) = true then (
 some (.inr (.inl false)))
 else (
 some (.inl (w64 (x19 + (1 : Int)))))
 else none)
 else (
 some (.inr (.inr ())))
def impl_NestOk (l1 : Nest) : Option (Bool) :=
 if ((((decide ((l1.Sizes.length : Int) > (200 : Int))) || (decide ((l1.Ins.length : Int) > (40 : Int)))) || (decide ((l1.Outs.length : Int) > (40 : Int)))) || (decide ((l1.Kernels.length : Int) > (400 : Int)))) = true then (
 some false)
 else (
 (loopM (fun s : Int => impl_NestOk_L1 l1 s) (0 : Int)).bind fun e => match e with
 | .inl e => some e
 | .inr e => impl_NestOk_J1 l1)
def slices_Clone_int_int (s1 : List Int) : Option (List Int) :=
 if s1.length ≤ 17592186044416 then some s1 else none
def impl_cloneNest_1 (f1 : Fix) : Option (Fix) :=
 (slices_Clone_int_int f1.Data).bind fun (r5 : (List Int)) =>
 some (⟨f1.Buffer, r5⟩ : Fix)
def impl_mapped_impl_Fix_impl_Fix__impl_cloneNest_1_J1 (x36 : (List Fix)) : Option ((List Fix)) :=
 some x36
def impl_mapped_impl_Fix_impl_Fix__impl_cloneNest_1_L1 (list1 : (List Fix)) (x20 : (List Fix)) (x21 : Int) : Option (((List Fix) × Int) ⊕ ((List Fix))) :=
 if (decide (x21 < (list1.length : Int))) = true then (
 if (0 ≤ x21 ∧ x21 < (list1.length : Int)) then
 (impl_cloneNest_1 (ix list1 x21)).bind fun (r28 : Fix) =>
 if (0 ≤ x21 ∧ x21 < ((List.replicate (list1.length : Int).toNat zT159.z).length : Int)) then
 some (.inl ((x20.set x21.toNat r28), (w64 (x21 + (1 : Int)))))
 else none
 else none)
 else (
 some (.inr x20))
def impl_mapped_impl_Fix_impl_Fix__impl_cloneNest_1 (list1 : (List Fix)) : Option ((List Fix)) :=
 if (0 ≤ (list1.length : Int) ∧ (list1.length : Int) ≤ 140737488355328 ∧ 32 * (list1.length : Int) ≤ 281474976710656) then
 (loopM (fun s : (List Fix) × Int => impl_mapped_impl_Fix_impl_Fix__impl_cloneNest_1_L1 list1 s.1 s.2) ((List.replicate (list1.length : Int).toNat zT159.z), (0 : Int))).bind fun e => impl_mapped_impl_Fix_impl_Fix__impl_cloneNest_1_J1 e
 else none
def impl_cloneAccess (a1 : Access) : Option (Access) :=
 (slices_Clone_int_int a1.Steps).bind fun (r5 : (List Int)) =>
 some (⟨a1.Buffer, a1.Offset, r5⟩ : Access)
def impl_mapped_impl_Access_impl_Access__impl_cloneAccess_J1 (x36 : (List Access)) : Option ((List Access)) :=
 some x36
def impl_mapped_impl_Access_impl_Access__impl_cloneAccess_L1 (list1 : (List Access)) (x20 : (List Access)) (x21 : Int) : Option (((List Access) × Int) ⊕ ((List Access))) :=
 if (decide (x21 < (list1.length : Int))) = true then (
 if (0 ≤ x21 ∧ x21 < (list1.length : Int)) then
 (impl_cloneAccess (ix list1 x21)).bind fun (r28 : Access) =>
 if (0 ≤ x21 ∧ x21 < ((List.replicate (list1.length : Int).toNat zT124.z).length : Int)) then
 some (.inl ((x20.set x21.toNat r28), (w64 (x21 + (1 : Int)))))
 else none
 else none)
 else (
 some (.inr x20))
def impl_mapped_impl_Access_impl_Access__impl_cloneAccess (list1 : (List Access)) : Option ((List Access)) :=
 if (0 ≤ (list1.length : Int) ∧ (list1.length : Int) ≤ 140737488355328 ∧ 40 * (list1.length : Int) ≤ 281474976710656) then
 (loopM (fun s : (List Access) × Int => impl_mapped_impl_Access_impl_Access__impl_cloneAccess_L1 list1 s.1 s.2) ((List.replicate (list1.length : Int).toNat zT124.z), (0 : Int))).bind fun e => impl_mapped_impl_Access_impl_Access__impl_cloneAccess_J1 e
 else none
def slices_Clone_impl_Calc_impl_Calc (s1 : List Calc) : Option (List Calc) :=
 if s1.length ≤ 5864062014805 then some s1 else none
def impl_cloneKernel (k1 : Kernel) : Option (Kernel) :=
 (slices_Clone_int_int k1.Loops).bind fun (r8 : (List Int)) =>
 (impl_mapped_impl_Access_impl_Access__impl_cloneAccess k1.Loads).bind fun (r11 : (List Access)) =>
 (impl_cloneAccess k1.Store).bind fun (r14 : Access) =>
 (slices_Clone_impl_Calc_impl_Calc k1.Code).bind fun (r17 : (List Calc)) =>
 some (⟨r8, r11, r14, k1.Sum, r17⟩ : Kernel)
def impl_mapped_impl_Kernel_impl_Kernel__impl_cloneKernel_J1 (x48 : (List Kernel)) : Option ((List Kernel)) :=
 some x48
def impl_mapped_impl_Kernel_impl_Kernel__impl_cloneKernel_L1 (list1 : (List Kernel)) (x26 : (List Kernel)) (x27 : Int) : Option (((List Kernel) × Int) ⊕ ((List Kernel))) :=
 if (decide (x27 < (list1.length : Int))) = true then (
 if (0 ≤ x27 ∧ x27 < (list1.length : Int)) then
 (impl_cloneKernel (ix list1 x27)).bind fun (r37 : Kernel) =>
 if (0 ≤ x27 ∧ x27 < ((List.replicate (list1.length : Int).toNat zT127.z).length : Int)) then
 some (.inl ((x26.set x27.toNat r37), (w64 (x27 + (1 : Int)))))
 else none
 else none)
 else (
 some (.inr x26))
def impl_mapped_impl_Kernel_impl_Kernel__impl_cloneKernel (list1 : (List Kernel)) : Option ((List Kernel)) :=
 if (0 ≤ (list1.length : Int) ∧ (list1.length : Int) ≤ 140737488355328 ∧ 120 * (list1.length : Int) ≤ 281474976710656) then
 (loopM (fun s : (List Kernel) × Int => impl_mapped_impl_Kernel_impl_Kernel__impl_cloneKernel_L1 list1 s.1 s.2) ((List.replicate (list1.length : Int).toNat zT127.z), (0 : Int))).bind fun e => impl_mapped_impl_Kernel_impl_Kernel__impl_cloneKernel_J1 e
 else none
def impl_cloneNest (l1 : Nest) : Option (Nest) :=
 (impl_mapped_impl_Fix_impl_Fix__impl_cloneNest_1 l1.Fixed).bind fun (r9 : (List Fix)) =>
 (slices_Clone_int_int l1.Sizes).bind fun (r12 : (List Int)) =>
 (slices_Clone_int_int l1.Ins).bind fun (r15 : (List Int)) =>
 (impl_mapped_impl_Kernel_impl_Kernel__impl_cloneKernel l1.Kernels).bind fun (r18 : (List Kernel)) =>
 (slices_Clone_int_int l1.Outs).bind fun (r21 : (List Int)) =>
 some (⟨r12, r15, r9, r18, r21⟩ : Nest)
def impl_steps_J3 (x37 : (List Int)) : Option ((List Int)) :=
 some x37
def impl_steps_J2 (dims1 : (List Int)) (n20 : Int) (i21 : Int) (x30 : (List Int)) : Option (((List Int) × Int × Int) ⊕ ((List Int))) :=
 if (0 ≤ i21 ∧ i21 < (dims1.length : Int)) then
 some (.inl (x30, (w64 (n20 * (ix dims1 i21))), (w64 (i21 - (1 : Int)))))
 else none
def impl_steps_L1 (dims1 : (List Int)) (x19 : (List Int)) (n20 : Int) (i21 : Int) : Option (((List Int) × Int × Int) ⊕ ((List Int))) :=
 if (decide (i21 ≥ (0 : Int))) = true then (
 if (0 ≤ i21 ∧ i21 < (dims1.length : Int)) then
 if (decide ((ix dims1 i21) > (1 : Int))) = true then (
 if (0 ≤ i21 ∧ i21 < ((List.replicate (dims1.length : Int).toNat (0 : Int)).length : Int)) then
 impl_steps_J2 dims1 n20 i21 (x19.set i21.toNat n20)
 else none)
 else (
 impl_steps_J2 dims1 n20 i21 x19)
 else none)
 else (
 some (.inr x19))
def impl_steps (dims1 : (List Int)) : Option ((List Int)) :=
 if (0 ≤ (dims1.length : Int) ∧ (dims1.length : Int) ≤ 140737488355328 ∧ 8 * (dims1.length : Int) ≤ 281474976710656) then
 (loopM (fun s : (List Int) × Int × Int => impl_steps_L1 dims1 s.1 s.2.1 s.2.2) ((List.replicate (dims1.length : Int).toNat (0 : Int)), (1 : Int), (w64 ((dims1.length : Int) - (1 : Int))))).bind fun e => impl_steps_J3 e
 else none
def slices_Equal_int_int_J1 : Option (Bool) :=
 some true
def slices_Equal_int_int_L1 (s11 : (List Int)) (s23 : (List Int)) (x14 : Int) : Option ((Int) ⊕ ((Bool) ⊕ (Unit))) :=
 if (decide (x14 < (s11.length : Int))) = true then (
 if (0 ≤ x14 ∧ x14 < (s11.length : Int)) then
 if (0 ≤ x14 ∧ x14 < (s23.length : Int)) then
 if ((ix s11 x14) != (ix s23 x14)) = true then (
 some (.inr (.inl false)))
 else (
 some (.inl (w64 (x14 + (1 : Int)))))
 else none
 else none)
 else (
 some (.inr (.inr ())))
def slices_Equal_int_int (s11 : (List Int)) (s23 : (List Int)) : Option (Bool) :=
 if ((s11.length : Int) != (s23.length : Int)) = true then (
 some false)
 else (
 (loopM (fun s : Int => slices_Equal_int_int_L1 s11 s23 s) (0 : Int)).bind fun e => match e with
 | .inl e => some e
 | .inr e => slices_Equal_int_int_J1)
def slices_Index_int_int_J1 : Option (Int) :=
 some (-1 : Int)
def slices_Index_int_int_L1 (p1 : (List Int)) (v3 : Int) (x9 : Int) : Option ((Int) ⊕ ((Int) ⊕ (Unit))) :=
 if (decide (x9 < (p1.length : Int))) = true then (
 if (0 ≤ x9 ∧ x9 < (p1.length : Int)) then
 if (v3 == (ix p1 x9)) = true then (
 some (.inr (.inl x9)))
 else (
 some (.inl (w64 (x9 + (1 : Int)))))
 else none)
 else (
 some (.inr (.inr ())))
def slices_Index_int_int (p1 : (List Int)) (v3 : Int) : Option (Int) :=
 (loopM (fun s : Int => slices_Index_int_int_L1 p1 v3 s) (0 : Int)).bind fun e => match e with
 | .inl e => some e
 | .inr e => slices_Index_int_int_J1
def slices_Contains_int_int (p1 : (List Int)) (v3 : Int) : Option (Bool) :=
 (slices_Index_int_int p1 v3).bind fun (r4 : Int) =>
 some (decide (r4 ≥ (0 : Int)))
def impl_truth (b1 : Bool) : Option (Int) :=
 if b1 = true then (
 some (1 : Int))
 else (
 some (0 : Int))
def impl_Kernel_loadsOf_J1 (n28 : Int) : Option (Int) :=
 some n28
def impl_Kernel_loadsOf_L1 (k1 : Kernel) (b6 : Int) (n16 : Int) (x17 : Int) : Option ((Int × Int) ⊕ (Int)) :=
 if (decide (x17 < (k1.Loads.length : Int))) = true then (
 if (0 ≤ x17 ∧ x17 < (k1.Loads.length : Int)) then
 (impl_truth ((ix k1.Loads x17).Buffer == b6)).bind fun (r24 : Int) =>
 some (.inl ((w64 (n16 + r24)), (w64 (x17 + (1 : Int)))))
 else none)
 else (
 some (.inr n16))
def impl_Kernel_loadsOf (k1 : Kernel) (b6 : Int) : Option (Int) :=
 (loopM (fun s : Int × Int => impl_Kernel_loadsOf_L1 k1 b6 s.1 s.2) ((0 : Int), (0 : Int))).bind fun e => impl_Kernel_loadsOf_J1 e
def impl_Nest_taker_J3 (c78 : Int) : Option (Int) :=
 some c78
def impl_Nest_taker_J2 (x55 : Int) (c75 : Int) : Option ((Int × Int) ⊕ ((Int) ⊕ (Int))) :=
 some (.inl (c75, (w64 (x55 + (1 : Int)))))
def impl_Nest_taker_L1 (l1 : Nest) (p7 : Int) (c54 : Int) (x55 : Int) : Option ((Int × Int) ⊕ ((Int) ⊕ (Int))) :=
 if (decide (x55 < (l1.Kernels.length : Int))) = true then (
 if (0 ≤ x55 ∧ x55 < (l1.Kernels.length : Int)) then
 (gcall ((!((x55 != p7) && ((ix l1.Kernels x55).Store.Buffer == (ix l1.Kernels p7).Store.Buffer))) && (decide (x55 ≥ p7))) (impl_Kernel_loadsOf (ix l1.Kernels p7) ((ix l1.Kernels x55).Store.Buffer))).bind fun (r63 : Int) =>
 if (((x55 != p7) && ((ix l1.Kernels x55).Store.Buffer == (ix l1.Kernels p7).Store.Buffer)) || ((decide (x55 ≥ p7)) && (decide (r63 > (0 : Int))))) = true then (
 some (.inr (.inl (-1 : Int))))
 else (
 (impl_Kernel_loadsOf (ix l1.Kernels x55) ((ix l1.Kernels p7).Store.Buffer)).bind fun (r70 : Int) =>
 if (decide (r70 > (0 : Int))) = true then (
 if ((decide (c54 ≥ (0 : Int))) || (decide (x55 < p7))) = true then (
 some (.inr (.inl (-1 : Int))))
 else (
 impl_Nest_taker_J2 x55 x55))
 else (
 impl_Nest_taker_J2 x55 c54))
 else none)
 else (
 some (.inr (.inr c54)))
def impl_Nest_taker (l1 : Nest) (p7 : Int) : Option (Int) :=
 if (0 ≤ p7 ∧ p7 < (l1.Kernels.length : Int)) then
 (impl_work ((ix l1.Kernels p7).Loops)).bind fun (r17 : Int × Bool) =>
 (gcall (!((ix l1.Kernels p7).Sum || ((ix l1.Kernels p7).Store.Offset != (0 : Int)))) (impl_steps ((ix l1.Kernels p7).Loops))).bind fun (r19 : (List Int)) =>
 (gcall (!((ix l1.Kernels p7).Sum || ((ix l1.Kernels p7).Store.Offset != (0 : Int)))) (slices_Equal_int_int ((ix l1.Kernels p7).Store.Steps) r19)).bind fun (r22 : Bool) =>
 if (((ix l1.Kernels p7).Sum || ((ix l1.Kernels p7).Store.Offset != (0 : Int))) || (!r22)) = false → (0 ≤ (ix l1.Kernels p7).Store.Buffer ∧ (ix l1.Kernels p7).Store.Buffer < (l1.Sizes.length : Int)) then
 (gcall (!((((ix l1.Kernels p7).Sum || ((ix l1.Kernels p7).Store.Offset != (0 : Int))) || (!r22)) || (r17.1 != (ix l1.Sizes (ix l1.Kernels p7).Store.Buffer)))) (slices_Contains_int_int l1.Outs ((ix l1.Kernels p7).Store.Buffer))).bind fun (r27 : Bool) =>
 if (((((ix l1.Kernels p7).Sum || ((ix l1.Kernels p7).Store.Offset != (0 : Int))) || (!r22)) || (r17.1 != (ix l1.Sizes (ix l1.Kernels p7).Store.Buffer))) || r27) = true then (
 some (-1 : Int))
 else (
 (loopM (fun s : Int × Int => impl_Nest_taker_L1 l1 p7 s.1 s.2) ((-1 : Int), (0 : Int))).bind fun e => match e with
 | .inl e => some e
 | .inr e => impl_Nest_taker_J3 e)
 else none
 else none
def impl_partners_J8 (x132 : (List Int)) : Option ((List Int) × Bool × Bool) :=
 some (x132, true, false)
def impl_partners_L3 (load11 : Access) (x132 : (List Int)) (x143 : Int) : Option ((Int) ⊕ (((List Int) × Bool × Bool) ⊕ (Unit))) :=
 if (decide (x143 < (load11.Steps.length : Int))) = true then (
 if (0 ≤ x143 ∧ x143 < (load11.Steps.length : Int)) then
 (gcall ((ix load11.Steps x143) != (0 : Int)) (slices_Contains_int_int x132 x143)).bind fun (r148 : Bool) =>
 if (((ix load11.Steps x143) != (0 : Int)) && (!r148)) = true then (
 some (.inr (.inl (([] : List Int), false, true))))
 else (
 some (.inl (w64 (x143 + (1 : Int)))))
 else none)
 else (
 some (.inr (.inr ())))
def impl_partners_J7 (load11 : Access) (x132 : (List Int)) : Option ((List Int) × Bool × Bool) :=
 (loopM (fun s : Int => impl_partners_L3 load11 x132 s) (0 : Int)).bind fun e => match e with
 | .inl e => some e
 | .inr e => impl_partners_J8 x132
def impl_partners_J6 (x71 : (List Int)) (x74 : Int) (found121 : Int) : Option (((List Int) × Int) ⊕ (((List Int) × Bool × Bool) ⊕ ((List Int)))) :=
 if (decide (found121 < (0 : Int))) = true then (
 some (.inr (.inl (([] : List Int), false, true))))
 else (
 if x71.length + ([found121] : List Int).length ≤ 17592186044416 then
 some (.inl ((x71 ++ ([found121] : List Int)), (w64 (x74 + (1 : Int)))))
 else none)
def impl_partners_J5 (x99 : Int) (found116 : Int) : Option ((Int × Int) ⊕ (Int)) :=
 some (.inl (found116, (w64 (x99 + (1 : Int)))))
def impl_partners_L2 (p1 : Kernel) (c6 : Kernel) (load11 : Access) (x71 : (List Int)) (x74 : Int) (found97 : Int) (x99 : Int) : Option ((Int × Int) ⊕ (Int)) :=
 if (decide (x99 < (c6.Loops.length : Int))) = true then (
 if (0 ≤ x99 ∧ x99 < (c6.Loops.length : Int)) then
 if ((decide (found97 < (0 : Int))) && ((ix c6.Loops x99) == (ix p1.Loops x74))) = true → (0 ≤ x99 ∧ x99 < (load11.Steps.length : Int)) then
 if ((decide (found97 < (0 : Int))) && ((ix c6.Loops x99) == (ix p1.Loops x74))) = true → (0 ≤ x74 ∧ x74 < (p1.Store.Steps.length : Int)) then
 (gcall (((decide (found97 < (0 : Int))) && ((ix c6.Loops x99) == (ix p1.Loops x74))) && ((ix load11.Steps x99) == (ix p1.Store.Steps x74))) (slices_Contains_int_int x71 x99)).bind fun (r110 : Bool) =>
 if ((((decide (found97 < (0 : Int))) && ((ix c6.Loops x99) == (ix p1.Loops x74))) && ((ix load11.Steps x99) == (ix p1.Store.Steps x74))) && (!r110)) = true then (
 impl_partners_J5 x99 x99)
 else (
 impl_partners_J5 x99 found97)
 else none
 else none
 else none)
 else (
 some (.inr found97))
def impl_partners_L1 (p1 : Kernel) (c6 : Kernel) (load11 : Access) (x71 : (List Int)) (x74 : Int) : Option (((List Int) × Int) ⊕ (((List Int) × Bool × Bool) ⊕ ((List Int)))) :=
 if (decide (x74 < (p1.Loops.length : Int))) = true then (
 if (0 ≤ x74 ∧ x74 < (p1.Loops.length : Int)) then
 (loopM (fun s : Int × Int => impl_partners_L2 p1 c6 load11 x71 x74 s.1 s.2) ((-1 : Int), (0 : Int))).bind fun e => impl_partners_J6 x71 x74 e
 else none)
 else (
 some (.inr (.inr x71)))
def impl_partners (p1 : Kernel) (c6 : Kernel) (load11 : Access) : Option ((List Int) × Bool × Bool) :=
 if (load11.Offset != (0 : Int)) = true then (
 some (([] : List Int), false, true))
 else (
 (loopM (fun s : (List Int) × Int => impl_partners_L1 p1 c6 load11 s.1 s.2) (([] : List Int), (0 : Int))).bind fun e => match e with
 | .inl e => some e
 | .inr e => impl_partners_J7 load11 e)
def impl_fused_J14 (c6 : Kernel) (x207 : (List Access)) (x353 : (List Calc)) (nb355 : Bool) : Option (Kernel × Bool) :=
 some ((⟨c6.Loops, x207, c6.Store, c6.Sum, x353⟩ : Kernel), ((decide ((x207.length : Int) ≤ (30 : Int))) && (decide ((x353.length : Int) ≤ (60 : Int)))))
def impl_fused_J13 (x301 : Int) (x342 : (List Calc)) (nb344 : Bool) (x345 : (List Int)) : Option (((List Calc) × Bool × (List Int) × Int) ⊕ ((List Calc) × Bool)) :=
 some (.inl (x342, nb344, x345, (w64 (x301 + (1 : Int)))))
def impl_fused_J12 (c6 : Kernel) (x296 : (List Calc)) (x299 : (List Int)) (x301 : Int) (x332 : Int) (x333 : Int) : Option (((List Calc) × Bool × (List Int) × Int) ⊕ ((List Calc) × Bool)) :=
 if (0 ≤ x301 ∧ x301 < ((List.replicate (c6.Code.length : Int).toNat (0 : Int)).length : Int)) then
 if x296.length + ([(⟨(ix c6.Code x301).Op, x332, x333⟩ : Calc)] : List Calc).length ≤ 5864062014805 then
 impl_fused_J13 x301 (x296 ++ ([(⟨(ix c6.Code x301).Op, x332, x333⟩ : Calc)] : List Calc)) false (x299.set x301.toNat (x296.length : Int))
 else none
 else none
def impl_fused_L5 (p1 : Kernel) (c6 : Kernel) (to104 : (List Int)) (x296 : (List Calc)) (nb298 : Bool) (x299 : (List Int)) (x301 : Int) : Option (((List Calc) × Bool × (List Int) × Int) ⊕ ((List Calc) × Bool)) :=
 if (decide (x301 < (c6.Code.length : Int))) = true then (
 if (0 ≤ x301 ∧ x301 < (c6.Code.length : Int)) then
 if ((ix c6.Code x301).Op == (1 : Int)) = true → (0 ≤ (ix c6.Code x301).A ∧ (ix c6.Code x301).A < (c6.Loads.length : Int)) then
 if (((ix c6.Code x301).Op == (1 : Int)) && ((ix c6.Loads (ix c6.Code x301).A).Buffer == p1.Store.Buffer)) = true then (
 if (0 ≤ x301 ∧ x301 < ((List.replicate (c6.Code.length : Int).toNat (0 : Int)).length : Int)) then
 (nm (x299.set x301.toNat (w64 ((p1.Code.length : Int) - (1 : Int))))).bind fun (l315 : (List Int)) =>
 impl_fused_J13 x301 x296 nb298 l315
 else none)
 else (
 if ((ix c6.Code x301).Op == (1 : Int)) = true then (
 if (0 ≤ (ix c6.Code x301).A ∧ (ix c6.Code x301).A < ((List.replicate (c6.Loads.length : Int).toNat (0 : Int)).length : Int)) then
 impl_fused_J12 c6 x296 x299 x301 (ix to104 (ix c6.Code x301).A) ((ix c6.Code x301).B)
 else none)
 else (
 if ((((ix c6.Code x301).Op == (3 : Int)) || ((ix c6.Code x301).Op == (4 : Int))) || ((ix c6.Code x301).Op == (5 : Int))) = true then (
 if (0 ≤ (ix c6.Code x301).A ∧ (ix c6.Code x301).A < ((List.replicate (c6.Code.length : Int).toNat (0 : Int)).length : Int)) then
 if (0 ≤ (ix c6.Code x301).B ∧ (ix c6.Code x301).B < ((List.replicate (c6.Code.length : Int).toNat (0 : Int)).length : Int)) then
 impl_fused_J12 c6 x296 x299 x301 (ix x299 (ix c6.Code x301).A) (ix x299 (ix c6.Code x301).B)
 else none
 else none)
 else (
 if ((ix c6.Code x301).Op != (2 : Int)) = true then (
 if (0 ≤ (ix c6.Code x301).A ∧ (ix c6.Code x301).A < ((List.replicate (c6.Code.length : Int).toNat (0 : Int)).length : Int)) then
 impl_fused_J12 c6 x296 x299 x301 (ix x299 (ix c6.Code x301).A) ((ix c6.Code x301).B)
 else none)
 else (
 impl_fused_J12 c6 x296 x299 x301 ((ix c6.Code x301).A) ((ix c6.Code x301).B)))))
 else none
 else none)
 else (
 some (.inr (x296, nb298)))
def impl_fused_J9 (p1 : Kernel) (c6 : Kernel) (to104 : (List Int)) (x207 : (List Access)) (x244 : (List Calc)) (nb246 : Bool) : Option (Kernel × Bool) :=
 if (0 ≤ (c6.Code.length : Int) ∧ (c6.Code.length : Int) ≤ 140737488355328 ∧ 8 * (c6.Code.length : Int) ≤ 281474976710656) then
 (loopM (fun s : (List Calc) × Bool × (List Int) × Int => impl_fused_L5 p1 c6 to104 s.1 s.2.1 s.2.2.1 s.2.2.2) (x244, nb246, (List.replicate (c6.Code.length : Int).toNat (0 : Int)), (0 : Int))).bind fun e => impl_fused_J14 c6 x207 e.1 e.2
 else none
def impl_fused_J8 (p1 : Kernel) (x222 : (List Calc)) (x226 : Int) (x233 : Int) : Option (((List Calc) × Bool × Int) ⊕ ((List Calc) × Bool)) :=
 if x222.length + ([(⟨(ix p1.Code x226).Op, x233, (ix p1.Code x226).B⟩ : Calc)] : List Calc).length ≤ 5864062014805 then
 some (.inl ((x222 ++ ([(⟨(ix p1.Code x226).Op, x233, (ix p1.Code x226).B⟩ : Calc)] : List Calc)), false, (w64 (x226 + (1 : Int)))))
 else none
def impl_fused_L4 (p1 : Kernel) (x101 : (List Access)) (x222 : (List Calc)) (nb224 : Bool) (x226 : Int) : Option (((List Calc) × Bool × Int) ⊕ ((List Calc) × Bool)) :=
 if (decide (x226 < (p1.Code.length : Int))) = true then (
 if (0 ≤ x226 ∧ x226 < (p1.Code.length : Int)) then
 if ((ix p1.Code x226).Op == (1 : Int)) = true then (
 impl_fused_J8 p1 x222 x226 (w64 ((ix p1.Code x226).A + (x101.length : Int))))
 else (
 impl_fused_J8 p1 x222 x226 ((ix p1.Code x226).A))
 else none)
 else (
 some (.inr (x222, nb224)))
def impl_fused_J6 (p1 : Kernel) (c6 : Kernel) (x101 : (List Access)) (to104 : (List Int)) (x207 : (List Access)) (nb209 : Bool) : Option (Kernel × Bool) :=
 (loopM (fun s : (List Calc) × Bool × Int => impl_fused_L4 p1 x101 s.1 s.2.1 s.2.2) (([] : List Calc), true, (0 : Int))).bind fun e => impl_fused_J9 p1 c6 to104 x207 e.1 e.2
def impl_fused_J5 (p1 : Kernel) (x151 : (List Access)) (x155 : Int) (nb194 : Bool) (x195 : (List Int)) : Option ((Bool × (List Access) × Bool × Int) ⊕ ((List Access) × Bool)) :=
 if x151.length + ([(⟨(ix p1.Loads x155).Buffer, (ix p1.Loads x155).Offset, x195⟩ : Access)] : List Access).length ≤ 3518437208883 then
 some (.inl (nb194, (x151 ++ ([(⟨(ix p1.Loads x155).Buffer, (ix p1.Loads x155).Offset, x195⟩ : Access)] : List Access)), false, (w64 (x155 + (1 : Int)))))
 else none
def impl_fused_L3 (p1 : Kernel) (c6 : Kernel) (x98 : (List Int)) (x155 : Int) (nb176 : Bool) (x177 : (List Int)) (x178 : Int) : Option ((Bool × (List Int) × Int) ⊕ (Bool × (List Int))) :=
 if (decide (x178 < (x98.length : Int))) = true then (
 if (0 ≤ x178 ∧ x178 < (x98.length : Int)) then
 if (0 ≤ x178 ∧ x178 < (((ix p1.Loads x155).Steps).length : Int)) then
 if (0 ≤ (ix x98 x178) ∧ (ix x98 x178) < ((List.replicate (c6.Loops.length : Int).toNat (0 : Int)).length : Int)) then
 (nm (x177.set (ix x98 x178).toNat (ix ((ix p1.Loads x155).Steps) x178))).bind fun (l189 : (List Int)) =>
 some (.inl (false, l189, (w64 (x178 + (1 : Int)))))
 else none
 else none
 else none)
 else (
 some (.inr (nb176, x177)))
def impl_fused_L2 (p1 : Kernel) (c6 : Kernel) (x98 : (List Int)) (nb150 : Bool) (x151 : (List Access)) (nb153 : Bool) (x155 : Int) : Option ((Bool × (List Access) × Bool × Int) ⊕ ((List Access) × Bool)) :=
 if (decide (x155 < (p1.Loads.length : Int))) = true then (
 if (0 ≤ x155 ∧ x155 < (p1.Loads.length : Int)) then
 if (0 ≤ (c6.Loops.length : Int) ∧ (c6.Loops.length : Int) ≤ 140737488355328 ∧ 8 * (c6.Loops.length : Int) ≤ 281474976710656) then
 (loopM (fun s : Bool × (List Int) × Int => impl_fused_L3 p1 c6 x98 x155 s.1 s.2.1 s.2.2) (nb150, (List.replicate (c6.Loops.length : Int).toNat (0 : Int)), (0 : Int))).bind fun e => impl_fused_J5 p1 x151 x155 e.1 e.2
 else none
 else none)
 else (
 some (.inr (x151, nb153)))
def impl_fused_J3 (p1 : Kernel) (c6 : Kernel) (x98 : (List Int)) (nb100 : Bool) (x101 : (List Access)) (nb103 : Bool) (to104 : (List Int)) : Option (Kernel × Bool) :=
 (loopM (fun s : Bool × (List Access) × Bool × Int => impl_fused_L2 p1 c6 x98 s.1 s.2.1 s.2.2.1 s.2.2.2) (nb100, x101, nb103, (0 : Int))).bind fun e => impl_fused_J6 p1 c6 x101 to104 e.1 e.2
def impl_fused_J2 (x57 : Int) (x81 : (List Int)) (nb83 : Bool) (x84 : (List Access)) (nb86 : Bool) (to87 : (List Int)) : Option (((List Int) × Bool × (List Access) × Bool × (List Int) × Int) ⊕ ((Kernel × Bool) ⊕ ((List Int) × Bool × (List Access) × Bool × (List Int)))) :=
 some (.inl (x81, nb83, x84, nb86, to87, (w64 (x57 + (1 : Int)))))
def impl_fused_L1 (p1 : Kernel) (c6 : Kernel) (x49 : (List Int)) (nb51 : Bool) (x52 : (List Access)) (nb54 : Bool) (to55 : (List Int)) (x57 : Int) : Option (((List Int) × Bool × (List Access) × Bool × (List Int) × Int) ⊕ ((Kernel × Bool) ⊕ ((List Int) × Bool × (List Access) × Bool × (List Int)))) :=
 if (decide (x57 < (c6.Loads.length : Int))) = true then (
 if (0 ≤ x57 ∧ x57 < (c6.Loads.length : Int)) then
 if ((ix c6.Loads x57).Buffer != p1.Store.Buffer) = true then (
 if (0 ≤ x57 ∧ x57 < ((List.replicate (c6.Loads.length : Int).toNat (0 : Int)).length : Int)) then
 if x52.length + ([(ix c6.Loads x57)] : List Access).length ≤ 3518437208883 then
 impl_fused_J2 x57 x49 nb51 (x52 ++ ([(ix c6.Loads x57)] : List Access)) false (to55.set x57.toNat (x52.length : Int))
 else none
 else none)
 else (
 (impl_partners p1 c6 (ix c6.Loads x57)).bind fun (r73 : (List Int) × Bool × Bool) =>
 (gcall ((!(!r73.2.1)) && (!nb51)) (slices_Equal_int_int x49 r73.1)).bind fun (r76 : Bool) =>
 if ((!r73.2.1) || ((!nb51) && (!r76))) = true then (
 some (.inr (.inl ((⟨([] : List Int), ([] : List Access), (⟨(0 : Int), (0 : Int), ([] : List Int)⟩ : Access), false, ([] : List Calc)⟩ : Kernel), false))))
 else (
 impl_fused_J2 x57 r73.1 r73.2.2 x52 nb54 to55))
 else none)
 else (
 some (.inr (.inr (x49, nb51, x52, nb54, to55))))
def impl_fused (p1 : Kernel) (c6 : Kernel) : Option (Kernel × Bool) :=
 if (0 ≤ (c6.Loads.length : Int) ∧ (c6.Loads.length : Int) ≤ 140737488355328 ∧ 8 * (c6.Loads.length : Int) ≤ 281474976710656) then
 (loopM (fun s : (List Int) × Bool × (List Access) × Bool × (List Int) × Int => impl_fused_L1 p1 c6 s.1 s.2.1 s.2.2.1 s.2.2.2.1 s.2.2.2.2.1 s.2.2.2.2.2) (([] : List Int), true, ([] : List Access), true, (List.replicate (c6.Loads.length : Int).toNat (0 : Int)), (0 : Int))).bind fun e => match e with
 | .inl e => some e
 | .inr e => impl_fused_J3 p1 c6 e.1 e.2.1 e.2.2.1 e.2.2.2.1 e.2.2.2.2
 else none
def slices_Delete_impl_Kernel_impl_Kernel (s1 : List Kernel) (i2 j3 : Int) : Option (List Kernel) :=
 if 0 ≤ i2 ∧ i2 ≤ j3 ∧ j3 ≤ (s1.length : Int) then some (s1.take i2.toNat ++ s1.drop j3.toNat) else none
def impl_fuseOnce_J3 (l1 : Nest) : Option (Bool × Nest) :=
 some (false, l1)
def impl_fuseOnce_J2 (x43 : Int) : Option ((Int) ⊕ ((Bool × Nest) ⊕ (Unit))) :=
 some (.inl (w64 (x43 + (1 : Int))))
def impl_fuseOnce_L1 (l1 : Nest) (x43 : Int) : Option ((Int) ⊕ ((Bool × Nest) ⊕ (Unit))) :=
 if (decide (x43 < (l1.Kernels.length : Int))) = true then (
 if (0 ≤ x43 ∧ x43 < (l1.Kernels.length : Int)) then
 (impl_Nest_taker l1 x43).bind fun (r53 : Int) =>
 if (decide (r53 < (0 : Int))) = true then (
 impl_fuseOnce_J2 x43)
 else (
 if (0 ≤ r53 ∧ r53 < (l1.Kernels.length : Int)) then
 (impl_fused (ix l1.Kernels x43) (ix l1.Kernels r53)).bind fun (r61 : Kernel × Bool) =>
 if r61.2 = true then (
 (slices_Delete_impl_Kernel_impl_Kernel (l1.Kernels.set r53.toNat r61.1) x43 (w64 (x43 + (1 : Int)))).bind fun (r74 : (List Kernel)) =>
 some (.inr (.inl (true, (⟨l1.Sizes, l1.Ins, l1.Fixed, r74, l1.Outs⟩ : Nest)))))
 else (
 impl_fuseOnce_J2 x43)
 else none)
 else none)
 else (
 some (.inr (.inr ())))
def impl_fuseOnce (l1 : Nest) : Option (Bool × Nest) :=
 (loopM (fun s : Int => impl_fuseOnce_L1 l1 s) (0 : Int)).bind fun e => match e with
 | .inl e => some e
 | .inr e => impl_fuseOnce_J3 l1
def impl_Fuse_J1 (x56 : (List Int)) (x58 : (List Int)) (x60 : (List Fix)) (x62 : (List Kernel)) (x64 : (List Int)) : Option (Nest) :=
 (impl_cloneNest (⟨x56, x58, x60, x62, x64⟩ : Nest)).bind fun (r66 : Nest) =>
 some r66
def impl_Fuse_L1 (x28 : (List Int)) (x30 : (List Int)) (x32 : (List Fix)) (x34 : (List Kernel)) (x36 : (List Int)) : Option (((List Int) × (List Int) × (List Fix) × (List Kernel) × (List Int)) ⊕ ((List Int) × (List Int) × (List Fix) × (List Kernel) × (List Int))) :=
 (impl_fuseOnce (⟨x28, x30, x32, x34, x36⟩ : Nest)).bind fun (r38 : Bool × Nest) =>
 if r38.1 = true then (
 some (.inl (r38.2.Sizes, r38.2.Ins, r38.2.Fixed, r38.2.Kernels, r38.2.Outs)))
 else (
 some (.inr (r38.2.Sizes, r38.2.Ins, r38.2.Fixed, r38.2.Kernels, r38.2.Outs)))
def impl_Fuse (l1 : Nest) : Option (Nest) :=
 (impl_NestOk l1).bind fun (r9 : Bool) =>
 if (!r9) = true then (
 some (⟨([] : List Int), ([] : List Int), ([] : List Fix), ([] : List Kernel), ([] : List Int)⟩ : Nest))
 else (
 (impl_cloneNest l1).bind fun (r12 : Nest) =>
 (loopM (fun s : (List Int) × (List Int) × (List Fix) × (List Kernel) × (List Int) => impl_Fuse_L1 s.1 s.2.1 s.2.2.1 s.2.2.2.1 s.2.2.2.2) (r12.Sizes, r12.Ins, r12.Fixed, r12.Kernels, r12.Outs)).bind fun e => impl_Fuse_J1 e.1 e.2.1 e.2.2.1 e.2.2.2.1 e.2.2.2.2)
def laws_eqIntS_J1 : Option (Bool) :=
 some true
def laws_eqIntS_L1 (a1 : (List Int)) (b3 : (List Int)) (i14 : Int) : Option ((Int) ⊕ ((Bool) ⊕ (Unit))) :=
 if (decide (i14 < (a1.length : Int))) = true then (
 if (0 ≤ i14 ∧ i14 < (a1.length : Int)) then
 if (0 ≤ i14 ∧ i14 < (b3.length : Int)) then
 if ((ix a1 i14) != (ix b3 i14)) = true then (
 some (.inr (.inl false)))
 else (
 some (.inl (w64 (i14 + (1 : Int)))))
 else none
 else none)
 else (
 some (.inr (.inr ())))
def laws_eqIntS (a1 : (List Int)) (b3 : (List Int)) : Option (Bool) :=
 if ((a1.length : Int) != (b3.length : Int)) = true then (
 some false)
 else (
 (loopM (fun s : Int => laws_eqIntS_L1 a1 b3 s) (0 : Int)).bind fun e => match e with
 | .inl e => some e
 | .inr e => laws_eqIntS_J1)
def laws_eqFix (a1 : Fix) (b3 : Fix) : Option (Bool) :=
 if (a1.Buffer != b3.Buffer) = true then (
 some false)
 else (
 (laws_eqIntS a1.Data b3.Data).bind fun (r8 : Bool) =>
 if (!r8) = true then (
 some false)
 else (
 some true))
def laws_eqFixS_J1 : Option (Bool) :=
 some true
def laws_eqFixS_L1 (a1 : (List Fix)) (b3 : (List Fix)) (i18 : Int) : Option ((Int) ⊕ ((Bool) ⊕ (Unit))) :=
 if (decide (i18 < (a1.length : Int))) = true then (
 if (0 ≤ i18 ∧ i18 < (a1.length : Int)) then
 if (0 ≤ i18 ∧ i18 < (b3.length : Int)) then
 (laws_eqFix (ix a1 i18) (ix b3 i18)).bind fun (r28 : Bool) =>
 if (!r28) = true then (
 some (.inr (.inl false)))
 else (
 some (.inl (w64 (i18 + (1 : Int)))))
 else none
 else none)
 else (
 some (.inr (.inr ())))
def laws_eqFixS (a1 : (List Fix)) (b3 : (List Fix)) : Option (Bool) :=
 if ((a1.length : Int) != (b3.length : Int)) = true then (
 some false)
 else (
 (loopM (fun s : Int => laws_eqFixS_L1 a1 b3 s) (0 : Int)).bind fun e => match e with
 | .inl e => some e
 | .inr e => laws_eqFixS_J1)
def laws_eqAccess (a1 : Access) (b3 : Access) : Option (Bool) :=
 if (a1.Buffer != b3.Buffer) = true then (
 some false)
 else (
 if (a1.Offset != b3.Offset) = true then (
 some false)
 else (
 (laws_eqIntS a1.Steps b3.Steps).bind fun (r9 : Bool) =>
 if (!r9) = true then (
 some false)
 else (
 some true)))
def laws_eqAccessS_J1 : Option (Bool) :=
 some true
def laws_eqAccessS_L1 (a1 : (List Access)) (b3 : (List Access)) (i18 : Int) : Option ((Int) ⊕ ((Bool) ⊕ (Unit))) :=
 if (decide (i18 < (a1.length : Int))) = true then (
 if (0 ≤ i18 ∧ i18 < (a1.length : Int)) then
 if (0 ≤ i18 ∧ i18 < (b3.length : Int)) then
 (laws_eqAccess (ix a1 i18) (ix b3 i18)).bind fun (r28 : Bool) =>
 if (!r28) = true then (
 some (.inr (.inl false)))
 else (
 some (.inl (w64 (i18 + (1 : Int)))))
 else none
 else none)
 else (
 some (.inr (.inr ())))
def laws_eqAccessS (a1 : (List Access)) (b3 : (List Access)) : Option (Bool) :=
 if ((a1.length : Int) != (b3.length : Int)) = true then (
 some false)
 else (
 (loopM (fun s : Int => laws_eqAccessS_L1 a1 b3 s) (0 : Int)).bind fun e => match e with
 | .inl e => some e
 | .inr e => laws_eqAccessS_J1)
def laws_eqCalc (a1 : Calc) (b2 : Calc) : Option (Bool) :=
 if (a1.Op != b2.Op) = true then (
 some false)
 else (
 if (a1.A != b2.A) = true then (
 some false)
 else (
 if (a1.B != b2.B) = true then (
 some false)
 else (
 some true)))
def laws_eqCalcS_J1 : Option (Bool) :=
 some true
def laws_eqCalcS_L1 (a1 : (List Calc)) (b3 : (List Calc)) (i16 : Int) : Option ((Int) ⊕ ((Bool) ⊕ (Unit))) :=
 if (decide (i16 < (a1.length : Int))) = true then (
 if (0 ≤ i16 ∧ i16 < (a1.length : Int)) then
 if (0 ≤ i16 ∧ i16 < (b3.length : Int)) then
 (laws_eqCalc (ix a1 i16) (ix b3 i16)).bind fun (r24 : Bool) =>
 if (!r24) = true then (
 some (.inr (.inl false)))
 else (
 some (.inl (w64 (i16 + (1 : Int)))))
 else none
 else none)
 else (
 some (.inr (.inr ())))
def laws_eqCalcS (a1 : (List Calc)) (b3 : (List Calc)) : Option (Bool) :=
 if ((a1.length : Int) != (b3.length : Int)) = true then (
 some false)
 else (
 (loopM (fun s : Int => laws_eqCalcS_L1 a1 b3 s) (0 : Int)).bind fun e => match e with
 | .inl e => some e
 | .inr e => laws_eqCalcS_J1)
def laws_eqKernel (a1 : Kernel) (b6 : Kernel) : Option (Bool) :=
 (laws_eqIntS a1.Loops b6.Loops).bind fun (r13 : Bool) =>
 if (!r13) = true then (
 some false)
 else (
 (laws_eqAccessS a1.Loads b6.Loads).bind fun (r16 : Bool) =>
 if (!r16) = true then (
 some false)
 else (
 (laws_eqAccess a1.Store b6.Store).bind fun (r19 : Bool) =>
 if (!r19) = true then (
 some false)
 else (
 if (!(a1.Sum == b6.Sum)) = true then (
 some false)
 else (
 (laws_eqCalcS a1.Code b6.Code).bind fun (r23 : Bool) =>
 if (!r23) = true then (
 some false)
 else (
 some true)))))
def laws_eqKernelS_J1 : Option (Bool) :=
 some true
def laws_eqKernelS_L1 (a1 : (List Kernel)) (b3 : (List Kernel)) (i24 : Int) : Option ((Int) ⊕ ((Bool) ⊕ (Unit))) :=
 if (decide (i24 < (a1.length : Int))) = true then (
 if (0 ≤ i24 ∧ i24 < (a1.length : Int)) then
 if (0 ≤ i24 ∧ i24 < (b3.length : Int)) then
 (laws_eqKernel (ix a1 i24) (ix b3 i24)).bind fun (r40 : Bool) =>
 if (!r40) = true then (
 some (.inr (.inl false)))
 else (
 some (.inl (w64 (i24 + (1 : Int)))))
 else none
 else none)
 else (
 some (.inr (.inr ())))
def laws_eqKernelS (a1 : (List Kernel)) (b3 : (List Kernel)) : Option (Bool) :=
 if ((a1.length : Int) != (b3.length : Int)) = true then (
 some false)
 else (
 (loopM (fun s : Int => laws_eqKernelS_L1 a1 b3 s) (0 : Int)).bind fun e => match e with
 | .inl e => some e
 | .inr e => laws_eqKernelS_J1)
def laws_eqNest (a1 : Nest) (b7 : Nest) : Option (Bool) :=
 (laws_eqIntS a1.Sizes b7.Sizes).bind fun (r15 : Bool) =>
 if (!r15) = true then (
 some false)
 else (
 (laws_eqIntS a1.Ins b7.Ins).bind fun (r18 : Bool) =>
 if (!r18) = true then (
 some false)
 else (
 (laws_eqFixS a1.Fixed b7.Fixed).bind fun (r21 : Bool) =>
 if (!r21) = true then (
 some false)
 else (
 (laws_eqKernelS a1.Kernels b7.Kernels).bind fun (r24 : Bool) =>
 if (!r24) = true then (
 some false)
 else (
 (laws_eqIntS a1.Outs b7.Outs).bind fun (r27 : Bool) =>
 if (!r27) = true then (
 some false)
 else (
 some true)))))
def laws_markIntS_J1 (k18 : Int) (p19 : (List Int)) : Option (Int × (List Int)) :=
 some (k18, p19)
def laws_markIntS_L1 (a1 : (List Int)) (a8 : (List Int)) (k9 : Int) (i10 : Int) : Option (((List Int) × Int × Int) ⊕ (Int × (List Int))) :=
 if (decide (i10 < (a1.length : Int))) = true then (
 if (0 ≤ i10 ∧ i10 < (a1.length : Int)) then
 some (.inl ((a8.set i10.toNat k9), (w64 (k9 + (1 : Int))), (w64 (i10 + (1 : Int)))))
 else none)
 else (
 some (.inr (k9, a8)))
def laws_markIntS (a1 : (List Int)) (k3 : Int) : Option (Int × (List Int)) :=
 (loopM (fun s : (List Int) × Int × Int => laws_markIntS_L1 a1 s.1 s.2.1 s.2.2) (a1, k3, (0 : Int))).bind fun e => laws_markIntS_J1 e.1 e.2
def laws_markFixS_J1 (k30 : Int) (p31 : (List Fix)) : Option (Int × (List Fix)) :=
 some (k30, p31)
def laws_markFixS_L1 (a1 : (List Fix)) (a15 : (List Fix)) (k16 : Int) (i17 : Int) : Option (((List Fix) × Int × Int) ⊕ (Int × (List Fix))) :=
 if (decide (i17 < (a1.length : Int))) = true then (
 if (0 ≤ i17 ∧ i17 < (a1.length : Int)) then
 (laws_markIntS ((ix (a15.set i17.toNat (⟨k16, (ix a15 i17).Data⟩ : Fix)) i17).Data) (w64 (k16 + (1 : Int)))).bind fun (r23 : Int × (List Int)) =>
 (nm ((a15.set i17.toNat (⟨k16, (ix a15 i17).Data⟩ : Fix)).set i17.toNat (⟨(ix (a15.set i17.toNat (⟨k16, (ix a15 i17).Data⟩ : Fix)) i17).Buffer, r23.2⟩ : Fix))).bind fun (l25 : (List Fix)) =>
 some (.inl (l25, r23.1, (w64 (i17 + (1 : Int)))))
 else none)
 else (
 some (.inr (k16, a15)))
def laws_markFixS (a1 : (List Fix)) (k3 : Int) : Option (Int × (List Fix)) :=
 (loopM (fun s : (List Fix) × Int × Int => laws_markFixS_L1 a1 s.1 s.2.1 s.2.2) (a1, k3, (0 : Int))).bind fun e => laws_markFixS_J1 e.1 e.2
def laws_markAccessS_J1 (k36 : Int) (p37 : (List Access)) : Option (Int × (List Access)) :=
 some (k36, p37)
def laws_markAccessS_L1 (a1 : (List Access)) (a17 : (List Access)) (k18 : Int) (i19 : Int) : Option (((List Access) × Int × Int) ⊕ (Int × (List Access))) :=
 if (decide (i19 < (a1.length : Int))) = true then (
 if (0 ≤ i19 ∧ i19 < (a1.length : Int)) then
 (nm (a17.set i19.toNat (⟨k18, (ix a17 i19).Offset, (ix a17 i19).Steps⟩ : Access))).bind fun (l24 : (List Access)) =>
 (nm (l24.set i19.toNat (⟨(ix l24 i19).Buffer, (w64 (k18 + (1 : Int))), (ix l24 i19).Steps⟩ : Access))).bind fun (l26 : (List Access)) =>
 (laws_markIntS ((ix l26 i19).Steps) (w64 ((w64 (k18 + (1 : Int))) + (1 : Int)))).bind fun (r29 : Int × (List Int)) =>
 (nm (l26.set i19.toNat (⟨(ix l26 i19).Buffer, (ix l26 i19).Offset, r29.2⟩ : Access))).bind fun (l31 : (List Access)) =>
 some (.inl (l31, r29.1, (w64 (i19 + (1 : Int)))))
 else none)
 else (
 some (.inr (k18, a17)))
def laws_markAccessS (a1 : (List Access)) (k3 : Int) : Option (Int × (List Access)) :=
 (loopM (fun s : (List Access) × Int × Int => laws_markAccessS_L1 a1 s.1 s.2.1 s.2.2) (a1, k3, (0 : Int))).bind fun e => laws_markAccessS_J1 e.1 e.2
def laws_markCalcS_J1 (k30 : Int) (p31 : (List Calc)) : Option (Int × (List Calc)) :=
 some (k30, p31)
def laws_markCalcS_L1 (a1 : (List Calc)) (a14 : (List Calc)) (k15 : Int) (i16 : Int) : Option (((List Calc) × Int × Int) ⊕ (Int × (List Calc))) :=
 if (decide (i16 < (a1.length : Int))) = true then (
 if (0 ≤ i16 ∧ i16 < (a1.length : Int)) then
 (nm (a14.set i16.toNat (⟨k15, (ix a14 i16).A, (ix a14 i16).B⟩ : Calc))).bind fun (l21 : (List Calc)) =>
 (nm (l21.set i16.toNat (⟨(ix l21 i16).Op, (w64 (k15 + (1 : Int))), (ix l21 i16).B⟩ : Calc))).bind fun (l23 : (List Calc)) =>
 (nm (l23.set i16.toNat (⟨(ix l23 i16).Op, (ix l23 i16).A, (w64 ((w64 (k15 + (1 : Int))) + (1 : Int)))⟩ : Calc))).bind fun (l25 : (List Calc)) =>
 some (.inl (l25, (w64 ((w64 ((w64 (k15 + (1 : Int))) + (1 : Int))) + (1 : Int))), (w64 (i16 + (1 : Int)))))
 else none)
 else (
 some (.inr (k15, a14)))
def laws_markCalcS (a1 : (List Calc)) (k3 : Int) : Option (Int × (List Calc)) :=
 (loopM (fun s : (List Calc) × Int × Int => laws_markCalcS_L1 a1 s.1 s.2.1 s.2.2) (a1, k3, (0 : Int))).bind fun e => laws_markCalcS_J1 e.1 e.2
def laws_markKernelS_J1 (k94 : Int) (p95 : (List Kernel)) : Option (Int × (List Kernel)) :=
 some (k94, p95)
def laws_markKernelS_L1 (a1 : (List Kernel)) (a46 : (List Kernel)) (k47 : Int) (i48 : Int) : Option (((List Kernel) × Int × Int) ⊕ (Int × (List Kernel))) :=
 if (decide (i48 < (a1.length : Int))) = true then (
 if (0 ≤ i48 ∧ i48 < (a1.length : Int)) then
 (laws_markIntS ((ix a46 i48).Loops) k47).bind fun (r57 : Int × (List Int)) =>
 (nm (a46.set i48.toNat (⟨r57.2, (ix a46 i48).Loads, (ix a46 i48).Store, (ix a46 i48).Sum, (ix a46 i48).Code⟩ : Kernel))).bind fun (l59 : (List Kernel)) =>
 (laws_markAccessS ((ix l59 i48).Loads) r57.1).bind fun (r65 : Int × (List Access)) =>
 (nm (l59.set i48.toNat (⟨(ix l59 i48).Loops, r65.2, (ix l59 i48).Store, (ix l59 i48).Sum, (ix l59 i48).Code⟩ : Kernel))).bind fun (l67 : (List Kernel)) =>
 (nm (l67.set i48.toNat (⟨(ix l67 i48).Loops, (ix l67 i48).Loads, (⟨r65.1, (ix l67 i48).Store.Offset, (ix l67 i48).Store.Steps⟩ : Access), (ix l67 i48).Sum, (ix l67 i48).Code⟩ : Kernel))).bind fun (l69 : (List Kernel)) =>
 (nm (l69.set i48.toNat (⟨(ix l69 i48).Loops, (ix l69 i48).Loads, (⟨(ix l69 i48).Store.Buffer, (w64 (r65.1 + (1 : Int))), (ix l69 i48).Store.Steps⟩ : Access), (ix l69 i48).Sum, (ix l69 i48).Code⟩ : Kernel))).bind fun (l71 : (List Kernel)) =>
 (laws_markIntS ((ix l71 i48).Store.Steps) (w64 ((w64 (r65.1 + (1 : Int))) + (1 : Int)))).bind fun (r77 : Int × (List Int)) =>
 (nm (l71.set i48.toNat (⟨(ix l71 i48).Loops, (ix l71 i48).Loads, (⟨(ix l71 i48).Store.Buffer, (ix l71 i48).Store.Offset, r77.2⟩ : Access), (ix l71 i48).Sum, (ix l71 i48).Code⟩ : Kernel))).bind fun (l79 : (List Kernel)) =>
 (nm (l79.set i48.toNat (⟨(ix l79 i48).Loops, (ix l79 i48).Loads, (ix l79 i48).Store, ((r77.1.tmod (3 : Int)) == (0 : Int)), (ix l79 i48).Code⟩ : Kernel))).bind fun (l81 : (List Kernel)) =>
 (laws_markCalcS ((ix l81 i48).Code) (w64 (r77.1 + (1 : Int)))).bind fun (r87 : Int × (List Calc)) =>
 (nm (l81.set i48.toNat (⟨(ix l81 i48).Loops, (ix l81 i48).Loads, (ix l81 i48).Store, (ix l81 i48).Sum, r87.2⟩ : Kernel))).bind fun (l89 : (List Kernel)) =>
 some (.inl (l89, r87.1, (w64 (i48 + (1 : Int)))))
 else none)
 else (
 some (.inr (k47, a46)))
def laws_markKernelS (a1 : (List Kernel)) (k3 : Int) : Option (Int × (List Kernel)) :=
 (loopM (fun s : (List Kernel) × Int × Int => laws_markKernelS_L1 a1 s.1 s.2.1 s.2.2) (a1, k3, (0 : Int))).bind fun e => laws_markKernelS_J1 e.1 e.2
def laws_markNest (a1 : Nest) (k7 : Int) : Option (Int × (List Int) × (List Int) × (List Fix) × (List Kernel) × (List Int)) :=
 (laws_markIntS a1.Sizes k7).bind fun (r9 : Int × (List Int)) =>
 (laws_markIntS a1.Ins r9.1).bind fun (r11 : Int × (List Int)) =>
 (laws_markFixS a1.Fixed r11.1).bind fun (r13 : Int × (List Fix)) =>
 (laws_markKernelS a1.Kernels r13.1).bind fun (r15 : Int × (List Kernel)) =>
 (laws_markIntS a1.Outs r15.1).bind fun (r17 : Int × (List Int)) =>
 some (r17.1, r9.2, r11.2, r13.2, r15.2, r17.2)
def laws_heldIntS_J1 (k18 : Int) : Option (Int) :=
 some k18
def laws_heldIntS_L1 (a1 : (List Int)) (k9 : Int) (i10 : Int) : Option ((Int × Int) ⊕ ((Int) ⊕ (Int))) :=
 if (decide (i10 < (a1.length : Int))) = true then (
 if (0 ≤ i10 ∧ i10 < (a1.length : Int)) then
 if ((ix a1 i10) != k9) = true then (
 some (.inr (.inl (-1 : Int))))
 else (
 some (.inl ((w64 (k9 + (1 : Int))), (w64 (i10 + (1 : Int))))))
 else none)
 else (
 some (.inr (.inr k9)))
def laws_heldIntS (a1 : (List Int)) (k3 : Int) : Option (Int) :=
 (loopM (fun s : Int × Int => laws_heldIntS_L1 a1 s.1 s.2) (k3, (0 : Int))).bind fun e => match e with
 | .inl e => some e
 | .inr e => laws_heldIntS_J1 e
def laws_heldFixS_J1 (k26 : Int) : Option (Int) :=
 some k26
def laws_heldFixS_L1 (a1 : (List Fix)) (k13 : Int) (i14 : Int) : Option ((Int × Int) ⊕ ((Int) ⊕ (Int))) :=
 if (decide (i14 < (a1.length : Int))) = true then (
 if (0 ≤ i14 ∧ i14 < (a1.length : Int)) then
 if ((ix a1 i14).Buffer != k13) = true then (
 some (.inr (.inl (-1 : Int))))
 else (
 (laws_heldIntS ((ix a1 i14).Data) (w64 (k13 + (1 : Int)))).bind fun (r21 : Int) =>
 if (decide (r21 < (0 : Int))) = true then (
 some (.inr (.inl (-1 : Int))))
 else (
 some (.inl (r21, (w64 (i14 + (1 : Int)))))))
 else none)
 else (
 some (.inr (.inr k13)))
def laws_heldFixS (a1 : (List Fix)) (k3 : Int) : Option (Int) :=
 (loopM (fun s : Int × Int => laws_heldFixS_L1 a1 s.1 s.2) (k3, (0 : Int))).bind fun e => match e with
 | .inl e => some e
 | .inr e => laws_heldFixS_J1 e
def laws_heldAccessS_J1 (k28 : Int) : Option (Int) :=
 some k28
def laws_heldAccessS_L1 (a1 : (List Access)) (k14 : Int) (i15 : Int) : Option ((Int × Int) ⊕ ((Int) ⊕ (Int))) :=
 if (decide (i15 < (a1.length : Int))) = true then (
 if (0 ≤ i15 ∧ i15 < (a1.length : Int)) then
 if ((ix a1 i15).Buffer != k14) = true then (
 some (.inr (.inl (-1 : Int))))
 else (
 if ((ix a1 i15).Offset != (w64 (k14 + (1 : Int)))) = true then (
 some (.inr (.inl (-1 : Int))))
 else (
 (laws_heldIntS ((ix a1 i15).Steps) (w64 ((w64 (k14 + (1 : Int))) + (1 : Int)))).bind fun (r23 : Int) =>
 if (decide (r23 < (0 : Int))) = true then (
 some (.inr (.inl (-1 : Int))))
 else (
 some (.inl (r23, (w64 (i15 + (1 : Int))))))))
 else none)
 else (
 some (.inr (.inr k14)))
def laws_heldAccessS (a1 : (List Access)) (k3 : Int) : Option (Int) :=
 (loopM (fun s : Int × Int => laws_heldAccessS_L1 a1 s.1 s.2) (k3, (0 : Int))).bind fun e => match e with
 | .inl e => some e
 | .inr e => laws_heldAccessS_J1 e
def laws_heldCalcS_J1 (k22 : Int) : Option (Int) :=
 some k22
def laws_heldCalcS_L1 (a1 : (List Calc)) (k11 : Int) (i12 : Int) : Option ((Int × Int) ⊕ ((Int) ⊕ (Int))) :=
 if (decide (i12 < (a1.length : Int))) = true then (
 if (0 ≤ i12 ∧ i12 < (a1.length : Int)) then
 if ((ix a1 i12).Op != k11) = true then (
 some (.inr (.inl (-1 : Int))))
 else (
 if ((ix a1 i12).A != (w64 (k11 + (1 : Int)))) = true then (
 some (.inr (.inl (-1 : Int))))
 else (
 if ((ix a1 i12).B != (w64 ((w64 (k11 + (1 : Int))) + (1 : Int)))) = true then (
 some (.inr (.inl (-1 : Int))))
 else (
 some (.inl ((w64 ((w64 ((w64 (k11 + (1 : Int))) + (1 : Int))) + (1 : Int))), (w64 (i12 + (1 : Int))))))))
 else none)
 else (
 some (.inr (.inr k11)))
def laws_heldCalcS (a1 : (List Calc)) (k3 : Int) : Option (Int) :=
 (loopM (fun s : Int × Int => laws_heldCalcS_L1 a1 s.1 s.2) (k3, (0 : Int))).bind fun e => match e with
 | .inl e => some e
 | .inr e => laws_heldCalcS_J1 e
def laws_heldKernelS_J1 (k54 : Int) : Option (Int) :=
 some k54
def laws_heldKernelS_L1 (a1 : (List Kernel)) (k27 : Int) (i28 : Int) : Option ((Int × Int) ⊕ ((Int) ⊕ (Int))) :=
 if (decide (i28 < (a1.length : Int))) = true then (
 if (0 ≤ i28 ∧ i28 < (a1.length : Int)) then
 (laws_heldIntS ((ix a1 i28).Loops) k27).bind fun (r37 : Int) =>
 if (decide (r37 < (0 : Int))) = true then (
 some (.inr (.inl (-1 : Int))))
 else (
 (laws_heldAccessS ((ix a1 i28).Loads) r37).bind fun (r40 : Int) =>
 if (decide (r40 < (0 : Int))) = true then (
 some (.inr (.inl (-1 : Int))))
 else (
 if ((ix a1 i28).Store.Buffer != r40) = true then (
 some (.inr (.inl (-1 : Int))))
 else (
 if ((ix a1 i28).Store.Offset != (w64 (r40 + (1 : Int)))) = true then (
 some (.inr (.inl (-1 : Int))))
 else (
 (laws_heldIntS ((ix a1 i28).Store.Steps) (w64 ((w64 (r40 + (1 : Int))) + (1 : Int)))).bind fun (r45 : Int) =>
 if (decide (r45 < (0 : Int))) = true then (
 some (.inr (.inl (-1 : Int))))
 else (
 if (!((ix a1 i28).Sum == ((r45.tmod (3 : Int)) == (0 : Int)))) = true then (
 some (.inr (.inl (-1 : Int))))
 else (
 (laws_heldCalcS ((ix a1 i28).Code) (w64 (r45 + (1 : Int)))).bind fun (r49 : Int) =>
 if (decide (r49 < (0 : Int))) = true then (
 some (.inr (.inl (-1 : Int))))
 else (
 some (.inl (r49, (w64 (i28 + (1 : Int))))))))))))
 else none)
 else (
 some (.inr (.inr k27)))
def laws_heldKernelS (a1 : (List Kernel)) (k3 : Int) : Option (Int) :=
 (loopM (fun s : Int × Int => laws_heldKernelS_L1 a1 s.1 s.2) (k3, (0 : Int))).bind fun e => match e with
 | .inl e => some e
 | .inr e => laws_heldKernelS_J1 e
def laws_heldNest (a1 : Nest) (k7 : Int) : Option (Int) :=
 (laws_heldIntS a1.Sizes k7).bind fun (r9 : Int) =>
 if (decide (r9 < (0 : Int))) = true then (
 some (-1 : Int))
 else (
 (laws_heldIntS a1.Ins r9).bind fun (r12 : Int) =>
 if (decide (r12 < (0 : Int))) = true then (
 some (-1 : Int))
 else (
 (laws_heldFixS a1.Fixed r12).bind fun (r15 : Int) =>
 if (decide (r15 < (0 : Int))) = true then (
 some (-1 : Int))
 else (
 (laws_heldKernelS a1.Kernels r15).bind fun (r18 : Int) =>
 if (decide (r18 < (0 : Int))) = true then (
 some (-1 : Int))
 else (
 (laws_heldIntS a1.Outs r18).bind fun (r21 : Int) =>
 if (decide (r21 < (0 : Int))) = true then (
 some (-1 : Int))
 else (
 some r21)))))
def laws_FnExactFuse (aL1 : Nest) : Option (Bool) :=
 (laws_szNest aL1 (1048576 : Int)).bind fun (r8 : Int) =>
 if (decide (r8 < (0 : Int))) = true then (
 some true)
 else (
 (laws_toNest aL1).bind fun (r11 : Nest) =>
 (spec_Fuse r11).bind fun (r18 : Nest) =>
 (laws_toNest aL1).bind fun (r26 : Nest) =>
 (impl_Fuse r26).bind fun (r34 : Nest) =>
 (laws_eqNest r34 r18).bind fun (r42 : Bool) =>
 if (!r42) = true then (
 some false)
 else (
 (laws_toNest aL1).bind fun (r45 : Nest) =>
 (laws_eqNest r26 r45).bind fun (r52 : Bool) =>
 if (!r52) = true then (
 some false)
 else (
 (laws_markNest r26 (1 : Int)).bind fun (r55 : Int × (List Int) × (List Int) × (List Fix) × (List Kernel) × (List Int)) =>
 (gcall (!(decide (r55.1 < (0 : Int)))) (laws_eqNest r34 r18)).bind fun (r57 : Bool) =>
 if ((decide (r55.1 < (0 : Int))) || (!r57)) = true then (
 some false)
 else (
 (laws_markNest r34 (1 : Int)).bind fun (r61 : Int × (List Int) × (List Int) × (List Fix) × (List Kernel) × (List Int)) =>
 (laws_heldNest (⟨r61.2.1, r61.2.2.1, r61.2.2.2.1, r61.2.2.2.2.1, r61.2.2.2.2.2⟩ : Nest) (1 : Int)).bind fun (r63 : Int) =>
 if (decide (r63 < (0 : Int))) = true then (
 some false)
 else (
 if (r63 != r61.1) = true then (
 some false)
 else (
 (laws_toNest aL1).bind fun (r67 : Nest) =>
 (impl_Fuse r67).bind fun (r74 : Nest) =>
 (laws_eqNest r74 r18).bind fun (r82 : Bool) =>
 if (!r82) = true then (
 some false)
 else (
 (laws_heldNest (⟨r61.2.1, r61.2.2.1, r61.2.2.2.1, r61.2.2.2.2.1, r61.2.2.2.2.2⟩ : Nest) (1 : Int)).bind fun (r85 : Int) =>
 if (decide (r85 < (0 : Int))) = true then (
 some false)
 else (
 if (r85 != r61.1) = true then (
 some false)
 else (
 some true)))))))))
end
end Go.Proofs.Ytbdchgofcejiiaa
