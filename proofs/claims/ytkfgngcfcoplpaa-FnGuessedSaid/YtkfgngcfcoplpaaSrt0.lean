import Derived.Test.YtkfgngcfcoplpaaPL1
import Derived.Test.YtkfgngcfcoplpaaPg23
set_option linter.unusedVariables false
set_option linter.unusedSimpArgs false
namespace Go.Pg
noncomputable def gIns_J2 (i46 : Int) (data80 : (List Int)) : Option (((List Int) × Int) ⊕ ((List Int))) :=
  some (.inl (data80, (w64 (i46 + (1 : Int)))))
noncomputable def gIns_L2 (data1 : (List Int)) (a3 : Int) (cmp : Int → Int → Option Int) (data62 : (List Int)) (j63 : Int) : Option (((List Int) × Int) ⊕ ((List Int))) :=
  if (decide (j63 > a3)) = true → (0 ≤ j63 ∧ j63 < (data1.length : Int)) then
    if (decide (j63 > a3)) = true → (0 ≤ (w64 (j63 - (1 : Int))) ∧ (w64 (j63 - (1 : Int))) < (data1.length : Int)) then
      (gcall (decide (j63 > a3)) (cmp (ix data62 j63) (ix data62 (w64 (j63 - (1 : Int)))))).bind fun (r68 : Int) =>
      if ((decide (j63 > a3)) && (decide (r68 < (0 : Int)))) = true then (
        if (0 ≤ (w64 (j63 - (1 : Int))) ∧ (w64 (j63 - (1 : Int))) < (data1.length : Int)) then
          if (0 ≤ j63 ∧ j63 < (data1.length : Int)) then
            (nm ((data62.set j63.toNat (ix data62 (w64 (j63 - (1 : Int))))).set (w64 (j63 - (1 : Int))).toNat (ix data62 j63))).bind fun (l76 : (List Int)) =>
            some (.inl (l76, (w64 (j63 - (1 : Int)))))
          else none
        else none)
      else (
        some (.inr data62))
    else none
  else none
noncomputable def gIns_L1 (data1 : (List Int)) (a3 : Int) (b4 : Int) (cmp : Int → Int → Option Int) (data45 : (List Int)) (i46 : Int) : Option (((List Int) × Int) ⊕ ((List Int))) :=
  if (decide (i46 < b4)) = true then (
    (loopM (fun s : (List Int) × Int => gIns_L2 data1 a3 cmp s.1 s.2) (data45, i46)).bind fun e => gIns_J2 i46 e)
  else (
    some (.inr data45))
noncomputable def gIns (data1 : (List Int)) (a3 : Int) (b4 : Int) (cmp : Int → Int → Option Int) : Option ((List Int)) :=
  (loopM (fun s : (List Int) × Int => gIns_L1 data1 a3 b4 cmp s.1 s.2) (data1, (w64 (a3 + (1 : Int))))).bind fun e => some e
noncomputable def gSwp_L1 (data1 : (List Int)) (a3 : Int) (b4 : Int) (n5 : Int) (data19 : (List Int)) (i20 : Int) : Option (((List Int) × Int) ⊕ ((List Int))) :=
  if (decide (i20 < n5)) = true then (
    if (0 ≤ (w64 (b4 + i20)) ∧ (w64 (b4 + i20)) < (data1.length : Int)) then
      if (0 ≤ (w64 (a3 + i20)) ∧ (w64 (a3 + i20)) < (data1.length : Int)) then
        (nm ((data19.set (w64 (a3 + i20)).toNat (ix data19 (w64 (b4 + i20)))).set (w64 (b4 + i20)).toNat (ix data19 (w64 (a3 + i20))))).bind fun (l26 : (List Int)) =>
        some (.inl (l26, (w64 (i20 + (1 : Int)))))
      else none
    else none)
  else (
    some (.inr data19))
noncomputable def gSwp (data1 : (List Int)) (a3 : Int) (b4 : Int) (n5 : Int) (cmp : Int → Int → Option Int) : Option ((List Int)) :=
  (loopM (fun s : (List Int) × Int => gSwp_L1 data1 a3 b4 n5 s.1 s.2) (data1, (0 : Int))).bind fun e => some e
noncomputable def gRot_J1 (m4 : Int) (cmp : Int → Int → Option Int) (data30 : (List Int)) (i31 : Int) : Option ((List Int)) :=
  (gSwp data30 (w64 (m4 - i31)) m4 i31 cmp).bind fun (r32 : (List Int)) =>
  some r32
noncomputable def gRot_L1 (m4 : Int) (cmp : Int → Int → Option Int) (data18 : (List Int)) (i19 : Int) (j20 : Int) : Option (((List Int) × Int × Int) ⊕ ((List Int) × Int)) :=
  if (i19 != j20) = true then (
    if (decide (i19 > j20)) = true then (
      (gSwp data18 (w64 (m4 - i19)) m4 j20 cmp).bind fun (r23 : (List Int)) =>
      some (.inl (r23, (w64 (i19 - j20)), j20)))
    else (
      (gSwp data18 (w64 (m4 - i19)) (w64 ((w64 (m4 + j20)) - i19)) i19 cmp).bind fun (r25 : (List Int)) =>
      some (.inl (r25, i19, (w64 (j20 - i19))))))
  else (
    some (.inr (data18, i19)))
noncomputable def gRot (data1 : (List Int)) (a3 : Int) (m4 : Int) (b5 : Int) (cmp : Int → Int → Option Int) : Option ((List Int)) :=
  (loopM (fun s : (List Int) × Int × Int => gRot_L1 m4 cmp s.1 s.2.1 s.2.2) (data1, (w64 (m4 - a3)), (w64 (b5 - m4)))).bind fun e => gRot_J1 m4 cmp e.1 e.2
noncomputable def gSym_J10 (p52 : (List Int)) : Option ((List Int)) :=
  some p52
noncomputable def gSym_L2 (data1 : (List Int)) (i33 : Int) (data41 : (List Int)) (k42 : Int) : Option (((List Int) × Int) ⊕ ((List Int))) :=
  if (decide (k42 < (w64 (i33 - (1 : Int))))) = true then (
    if (0 ≤ (w64 (k42 + (1 : Int))) ∧ (w64 (k42 + (1 : Int))) < (data1.length : Int)) then
      if (0 ≤ k42 ∧ k42 < (data1.length : Int)) then
        (nm ((data41.set k42.toNat (ix data41 (w64 (k42 + (1 : Int))))).set (w64 (k42 + (1 : Int))).toNat (ix data41 k42))).bind fun (l48 : (List Int)) =>
        some (.inl (l48, (w64 (k42 + (1 : Int)))))
      else none
    else none)
  else (
    some (.inr data41))
noncomputable def gSym_J9 (data1 : (List Int)) (a3 : Int) (i33 : Int) : Option ((List Int)) :=
  (loopM (fun s : (List Int) × Int => gSym_L2 data1 i33 s.1 s.2) (data1, a3)).bind fun e => gSym_J10 e
noncomputable def gSym_L1 (data1 : (List Int)) (a3 : Int) (cmp : Int → Int → Option Int) (i21 : Int) (j22 : Int) : Option ((Int × Int) ⊕ (Int)) :=
  if (decide (i21 < j22)) = true then (
    if (0 ≤ (w64 (((IntKind.wrap .u64 ((w64 (i21 + j22)))) / 2 ^ (1 : Int).toNat))) ∧ (w64 (((IntKind.wrap .u64 ((w64 (i21 + j22)))) / 2 ^ (1 : Int).toNat))) < (data1.length : Int)) then
      if (0 ≤ a3 ∧ a3 < (data1.length : Int)) then
        (cmp (ix data1 (w64 (((IntKind.wrap .u64 ((w64 (i21 + j22)))) / 2 ^ (1 : Int).toNat)))) (ix data1 a3)).bind fun (r28 : Int) =>
        if (decide (r28 < (0 : Int))) = true then (
          some (.inl ((w64 ((w64 (((IntKind.wrap .u64 ((w64 (i21 + j22)))) / 2 ^ (1 : Int).toNat))) + (1 : Int))), j22)))
        else (
          some (.inl (i21, (w64 (((IntKind.wrap .u64 ((w64 (i21 + j22)))) / 2 ^ (1 : Int).toNat))))))
      else none
    else none)
  else (
    some (.inr i21))
noncomputable def gSym_J12 (p93 : (List Int)) : Option ((List Int)) :=
  some p93
noncomputable def gSym_L4 (data1 : (List Int)) (i74 : Int) (data82 : (List Int)) (k83 : Int) : Option (((List Int) × Int) ⊕ ((List Int))) :=
  if (decide (k83 > i74)) = true then (
    if (0 ≤ (w64 (k83 - (1 : Int))) ∧ (w64 (k83 - (1 : Int))) < (data1.length : Int)) then
      if (0 ≤ k83 ∧ k83 < (data1.length : Int)) then
        (nm ((data82.set k83.toNat (ix data82 (w64 (k83 - (1 : Int))))).set (w64 (k83 - (1 : Int))).toNat (ix data82 k83))).bind fun (l89 : (List Int)) =>
        some (.inl (l89, (w64 (k83 - (1 : Int)))))
      else none
    else none)
  else (
    some (.inr data82))
noncomputable def gSym_J11 (data1 : (List Int)) (m4 : Int) (i74 : Int) : Option ((List Int)) :=
  (loopM (fun s : (List Int) × Int => gSym_L4 data1 i74 s.1 s.2) (data1, m4)).bind fun e => gSym_J12 e
noncomputable def gSym_L3 (data1 : (List Int)) (m4 : Int) (cmp : Int → Int → Option Int) (i62 : Int) (j63 : Int) : Option ((Int × Int) ⊕ (Int)) :=
  if (decide (i62 < j63)) = true then (
    if (0 ≤ m4 ∧ m4 < (data1.length : Int)) then
      if (0 ≤ (w64 (((IntKind.wrap .u64 ((w64 (i62 + j63)))) / 2 ^ (1 : Int).toNat))) ∧ (w64 (((IntKind.wrap .u64 ((w64 (i62 + j63)))) / 2 ^ (1 : Int).toNat))) < (data1.length : Int)) then
        (cmp (ix data1 m4) (ix data1 (w64 (((IntKind.wrap .u64 ((w64 (i62 + j63)))) / 2 ^ (1 : Int).toNat))))).bind fun (r69 : Int) =>
        if (!(decide (r69 < (0 : Int)))) = true then (
          some (.inl ((w64 ((w64 (((IntKind.wrap .u64 ((w64 (i62 + j63)))) / 2 ^ (1 : Int).toNat))) + (1 : Int))), j63)))
        else (
          some (.inl (i62, (w64 (((IntKind.wrap .u64 ((w64 (i62 + j63)))) / 2 ^ (1 : Int).toNat))))))
      else none
    else none)
  else (
    some (.inr i62))
noncomputable def gSym_J16 (a3 : Int) (m4 : Int) (b5 : Int) (cmp : Int → Int → Option Int) (rf : (List Int) → Int → Int → Int → Option ((List Int))) (start117 : Int) (data127 : (List Int)) : Option ((List Int)) :=
  if ((decide ((w64 (((IntKind.wrap .u64 ((w64 (a3 + b5)))) / 2 ^ (1 : Int).toNat))) < (w64 ((w64 ((w64 (((IntKind.wrap .u64 ((w64 (a3 + b5)))) / 2 ^ (1 : Int).toNat))) + m4)) - start117)))) && (decide ((w64 ((w64 ((w64 (((IntKind.wrap .u64 ((w64 (a3 + b5)))) / 2 ^ (1 : Int).toNat))) + m4)) - start117)) < b5))) = true then (
    (rf data127 (w64 (((IntKind.wrap .u64 ((w64 (a3 + b5)))) / 2 ^ (1 : Int).toNat))) (w64 ((w64 ((w64 (((IntKind.wrap .u64 ((w64 (a3 + b5)))) / 2 ^ (1 : Int).toNat))) + m4)) - start117)) b5).bind fun (r130 : (List Int)) =>
    some r130)
  else (
    some data127)
noncomputable def gSym_J15 (a3 : Int) (m4 : Int) (b5 : Int) (cmp : Int → Int → Option Int) (rf : (List Int) → Int → Int → Int → Option ((List Int))) (start117 : Int) (data122 : (List Int)) : Option ((List Int)) :=
  if ((decide (a3 < start117)) && (decide (start117 < (w64 (((IntKind.wrap .u64 ((w64 (a3 + b5)))) / 2 ^ (1 : Int).toNat)))))) = true then (
    (rf data122 a3 start117 (w64 (((IntKind.wrap .u64 ((w64 (a3 + b5)))) / 2 ^ (1 : Int).toNat)))).bind fun (r125 : (List Int)) =>
    gSym_J16 a3 m4 b5 cmp rf start117 r125)
  else (
    gSym_J16 a3 m4 b5 cmp rf start117 data122)
noncomputable def gSym_J14 (data1 : (List Int)) (a3 : Int) (m4 : Int) (b5 : Int) (cmp : Int → Int → Option Int) (rf : (List Int) → Int → Int → Int → Option ((List Int))) (start117 : Int) : Option ((List Int)) :=
  if ((decide (start117 < m4)) && (decide (m4 < (w64 ((w64 ((w64 (((IntKind.wrap .u64 ((w64 (a3 + b5)))) / 2 ^ (1 : Int).toNat))) + m4)) - start117))))) = true then (
    (gRot data1 start117 m4 (w64 ((w64 ((w64 (((IntKind.wrap .u64 ((w64 (a3 + b5)))) / 2 ^ (1 : Int).toNat))) + m4)) - start117)) cmp).bind fun (r120 : (List Int)) =>
    gSym_J15 a3 m4 b5 cmp rf start117 r120)
  else (
    gSym_J15 a3 m4 b5 cmp rf start117 data1)
noncomputable def gSym_L5 (data1 : (List Int)) (a3 : Int) (m4 : Int) (b5 : Int) (cmp : Int → Int → Option Int) (start105 : Int) (r106 : Int) : Option ((Int × Int) ⊕ (Int)) :=
  if (decide (start105 < r106)) = true then (
    if (0 ≤ (w64 ((w64 ((w64 ((w64 (((IntKind.wrap .u64 ((w64 (a3 + b5)))) / 2 ^ (1 : Int).toNat))) + m4)) - (1 : Int))) - (w64 (((IntKind.wrap .u64 ((w64 (start105 + r106)))) / 2 ^ (1 : Int).toNat))))) ∧ (w64 ((w64 ((w64 ((w64 (((IntKind.wrap .u64 ((w64 (a3 + b5)))) / 2 ^ (1 : Int).toNat))) + m4)) - (1 : Int))) - (w64 (((IntKind.wrap .u64 ((w64 (start105 + r106)))) / 2 ^ (1 : Int).toNat))))) < (data1.length : Int)) then
      if (0 ≤ (w64 (((IntKind.wrap .u64 ((w64 (start105 + r106)))) / 2 ^ (1 : Int).toNat))) ∧ (w64 (((IntKind.wrap .u64 ((w64 (start105 + r106)))) / 2 ^ (1 : Int).toNat))) < (data1.length : Int)) then
        (cmp (ix data1 (w64 ((w64 ((w64 ((w64 (((IntKind.wrap .u64 ((w64 (a3 + b5)))) / 2 ^ (1 : Int).toNat))) + m4)) - (1 : Int))) - (w64 (((IntKind.wrap .u64 ((w64 (start105 + r106)))) / 2 ^ (1 : Int).toNat)))))) (ix data1 (w64 (((IntKind.wrap .u64 ((w64 (start105 + r106)))) / 2 ^ (1 : Int).toNat))))).bind fun (r112 : Int) =>
        if (!(decide (r112 < (0 : Int)))) = true then (
          some (.inl ((w64 ((w64 (((IntKind.wrap .u64 ((w64 (start105 + r106)))) / 2 ^ (1 : Int).toNat))) + (1 : Int))), r106)))
        else (
          some (.inl (start105, (w64 (((IntKind.wrap .u64 ((w64 (start105 + r106)))) / 2 ^ (1 : Int).toNat))))))
      else none
    else none)
  else (
    some (.inr start105))
noncomputable def gSym_J13 (data1 : (List Int)) (a3 : Int) (m4 : Int) (b5 : Int) (cmp : Int → Int → Option Int) (rf : (List Int) → Int → Int → Int → Option ((List Int))) (start95 : Int) (r96 : Int) : Option ((List Int)) :=
  (loopM (fun s : Int × Int => gSym_L5 data1 a3 m4 b5 cmp s.1 s.2) (start95, r96)).bind fun e => gSym_J14 data1 a3 m4 b5 cmp rf e
noncomputable def gSym_S (rf : (List Int) → Int → Int → Int → Option ((List Int))) (data1 : (List Int)) (a3 : Int) (m4 : Int) (b5 : Int) (cmp : Int → Int → Option Int) : Option ((List Int)) :=
  if ((w64 (m4 - a3)) == (1 : Int)) = true then (
    (loopM (fun s : Int × Int => gSym_L1 data1 a3 cmp s.1 s.2) (m4, b5)).bind fun e => gSym_J9 data1 a3 e)
  else (
    if ((w64 (b5 - m4)) == (1 : Int)) = true then (
      (loopM (fun s : Int × Int => gSym_L3 data1 m4 cmp s.1 s.2) (a3, m4)).bind fun e => gSym_J11 data1 m4 e)
    else (
      if (decide (m4 > (w64 (((IntKind.wrap .u64 ((w64 (a3 + b5)))) / 2 ^ (1 : Int).toNat))))) = true then (
        gSym_J13 data1 a3 m4 b5 cmp rf (w64 ((w64 ((w64 (((IntKind.wrap .u64 ((w64 (a3 + b5)))) / 2 ^ (1 : Int).toNat))) + m4)) - b5)) (w64 (((IntKind.wrap .u64 ((w64 (a3 + b5)))) / 2 ^ (1 : Int).toNat))))
      else (
        gSym_J13 data1 a3 m4 b5 cmp rf a3 m4)))
noncomputable def gSym_R (cmp : Int → Int → Option Int) : Nat → (List Int) → Int → Int → Int → Option ((List Int))
  | 0 => fun _ _ _ _ => none
  | n + 1 => fun d a m b => gSym_S (gSym_R cmp n) d a m b cmp
noncomputable def gSym (data1 : (List Int)) (a3 : Int) (m4 : Int) (b5 : Int) (cmp : Int → Int → Option Int) : Option ((List Int)) := gSym_R cmp recFuel data1 a3 m4 b5
noncomputable def gStb_J5 (blockSize46 : Int) (data65 : (List Int)) : Option (((List Int) × Int) ⊕ ((List Int))) :=
  some (.inl (data65, (w64 (blockSize46 * (2 : Int)))))
noncomputable def gStb_J4 (n3 : Int) (cmp : Int → Int → Option Int) (blockSize46 : Int) (data60 : (List Int)) (a61 : Int) : Option (((List Int) × Int) ⊕ ((List Int))) :=
  if (decide ((w64 (a61 + blockSize46)) < n3)) = true then (
    (gSym data60 a61 (w64 (a61 + blockSize46)) n3 cmp).bind fun (r63 : (List Int)) =>
    gStb_J5 blockSize46 r63)
  else (
    gStb_J5 blockSize46 data60)
noncomputable def gStb_L3 (n3 : Int) (cmp : Int → Int → Option Int) (blockSize46 : Int) (data51 : (List Int)) (a52 : Int) (b53 : Int) : Option (((List Int) × Int × Int) ⊕ ((List Int) × Int)) :=
  if (decide (b53 ≤ n3)) = true then (
    (gSym data51 a52 (w64 (a52 + blockSize46)) b53 cmp).bind fun (r55 : (List Int)) =>
    some (.inl (r55, b53, (w64 (b53 + (w64 ((2 : Int) * blockSize46)))))))
  else (
    some (.inr (data51, a52)))
noncomputable def gStb_L2 (n3 : Int) (cmp : Int → Int → Option Int) (data45 : (List Int)) (blockSize46 : Int) : Option (((List Int) × Int) ⊕ ((List Int))) :=
  if (decide (blockSize46 < n3)) = true then (
    (loopM (fun s : (List Int) × Int × Int => gStb_L3 n3 cmp blockSize46 s.1 s.2.1 s.2.2) (data45, (0 : Int), (w64 ((2 : Int) * blockSize46)))).bind fun e => gStb_J4 n3 cmp blockSize46 e.1 e.2)
  else (
    some (.inr data45))
noncomputable def gStb_J1 (n3 : Int) (cmp : Int → Int → Option Int) (data22 : (List Int)) (a23 : Int) : Option ((List Int)) :=
  (gIns data22 a23 n3 cmp).bind fun (r24 : (List Int)) =>
  (loopM (fun s : (List Int) × Int => gStb_L2 n3 cmp s.1 s.2) (r24, (20 : Int))).bind fun e => some e
noncomputable def gStb_L1 (n3 : Int) (cmp : Int → Int → Option Int) (data13 : (List Int)) (a14 : Int) (b15 : Int) : Option (((List Int) × Int × Int) ⊕ ((List Int) × Int)) :=
  if (decide (b15 ≤ n3)) = true then (
    (gIns data13 a14 b15 cmp).bind fun (r17 : (List Int)) =>
    some (.inl (r17, b15, (w64 (b15 + (20 : Int))))))
  else (
    some (.inr (data13, a14)))
noncomputable def gStb (data1 : (List Int)) (n3 : Int) (cmp : Int → Int → Option Int) : Option ((List Int)) :=
  (loopM (fun s : (List Int) × Int × Int => gStb_L1 n3 cmp s.1 s.2.1 s.2.2) (data1, (0 : Int), (20 : Int))).bind fun e => gStb_J1 n3 cmp e.1 e.2
noncomputable def gSrt (p1 : (List Int)) (cmp : Int → Int → Option Int) : Option ((List Int)) :=
  (gStb p1 (p1.length : Int) cmp).bind fun (r9 : (List Int)) =>
  some r9
theorem mid_eq {i j : Nat} (h : i + j < 9223372036854775808) : w64 ((IntKind.wrap .u64 (w64 ((i : Int) + (j : Int)))) / 2 ^ (1 : Int).toNat) = (((i + j) / 2 : Nat) : Int) := by
  have e1 : w64 ((i : Int) + (j : Int)) = ((i + j : Nat) : Int) := by rw [w64_id (by omega) (by omega)]; omega
  have e2 : IntKind.wrap .u64 ((i + j : Nat) : Int) = ((i + j : Nat) : Int) := by
    simp [IntKind.wrap, IntKind.bits, IntKind.signed]
    omega
  have e3 : (2 : Int) ^ (1 : Int).toNat = 2 := by decide
  rw [e1, e2, e3, w64_id (by omega) (by omega)]
  omega
theorem bsearch {f : Int × Int → Option ((Int × Int) ⊕ Int)} (q : Nat → Bool) (i0 j0 : Nat) (h : i0 ≤ j0)
    (hs : ∀ i j : Nat, i0 ≤ i → i < j → j ≤ j0 → f ((i : Int), (j : Int)) = some (if q ((i + j) / 2) = true then .inl ((((i + j) / 2 + 1 : Nat) : Int), (j : Int)) else .inl ((i : Int), (((i + j) / 2 : Nat) : Int))))
    (he : ∀ i : Nat, i0 ≤ i → i ≤ j0 → f ((i : Int), (i : Int)) = some (.inr (i : Int))) :
    ∃ k : Nat, i0 ≤ k ∧ k ≤ j0 ∧ loopM f ((i0 : Int), (j0 : Int)) = some (k : Int) ∧ (i0 < k → q (k - 1) = true) ∧ (k < j0 → q k = false) := by
  obtain ⟨r, h1, k, rfl, h2⟩ := loopM_rel (f := f) (Post := fun r => ∃ k : Nat, r = (k : Int) ∧ i0 ≤ k ∧ k ≤ j0 ∧ (i0 < k → q (k - 1) = true) ∧ (k < j0 → q k = false))
    (fun s => ∃ i j : Nat, s = ((i : Int), (j : Int)) ∧ i0 ≤ i ∧ i ≤ j ∧ j ≤ j0 ∧ (i0 < i → q (i - 1) = true) ∧ (j < j0 → q j = false)) (fun s => (s.2 - s.1).toNat) (s := ((i0 : Int), (j0 : Int)))
    ⟨i0, j0, rfl, Nat.le_refl _, h, Nat.le_refl _, fun h => absurd h (Nat.lt_irrefl _), fun h => absurd h (Nat.lt_irrefl _)⟩ (by
    rintro s ⟨i, j, rfl, a1, a2, a3, a4, a5⟩
    rcases Nat.lt_or_ge i j with hij | hij
    · left
      rw [hs i j a1 hij a3]
      by_cases hq : q ((i + j) / 2) = true
      · rw [if_pos hq]
        exact ⟨_, rfl, ⟨(i + j) / 2 + 1, j, rfl, by omega, by omega, a3, fun _ => by simpa using hq, a5⟩, by show ((j : Int) - (((i + j) / 2 + 1 : Nat) : Int)).toNat < ((j : Int) - (i : Int)).toNat; omega⟩
      · rw [if_neg hq]
        exact ⟨_, rfl, ⟨i, (i + j) / 2, rfl, a1, by omega, by omega, a4, fun _ => by simpa using hq⟩, by show ((((i + j) / 2 : Nat) : Int) - (i : Int)).toNat < ((j : Int) - (i : Int)).toNat; omega⟩
    · obtain rfl : i = j := by omega
      right
      exact ⟨_, he i a1 a3, i, rfl, a1, a3, a4, a5⟩)
  exact ⟨k, h2.1, h2.2.1, h1, h2.2.2⟩
theorem ix_pre {pre t : List Int} {x : Int} {k : Int} (h : k = (pre.length : Int)) : ix (pre ++ x :: t) k = x := by
  subst h; unfold ix; simp [List.getD_eq_getElem?_getD]
theorem ix_pre1 {pre t : List Int} {x y : Int} {k : Int} (h : k = ((pre.length + 1 : Nat) : Int)) : ix (pre ++ x :: y :: t) k = y := by
  rw [show pre ++ x :: y :: t = (pre ++ [x]) ++ y :: t by simp]; exact ix_pre (by simpa using h)
theorem swap_next (pre t : List Int) (x y : Int) : ((pre ++ x :: y :: t).set pre.length y).set (pre.length + 1) x = pre ++ y :: x :: t := by
  rw [List.set_append_right _ _ (Nat.le_refl _), Nat.sub_self, List.set_cons_zero, List.set_append_right _ _ (by omega), Nat.add_sub_cancel_left]
  rfl
theorem swap_prev (pre t : List Int) (x y : Int) : ((pre ++ x :: y :: t).set (pre.length + 1) x).set pre.length y = pre ++ y :: x :: t := by
  rw [List.set_append_right _ _ (by omega), Nat.add_sub_cancel_left, List.set_append_right _ _ (Nat.le_refl _), Nat.sub_self]
  rfl
theorem sym_L2 (data : List Int) (i : Nat) (x : Int) (rest : List Int) : ∀ (R pre : List Int), i = pre.length + R.length + 1 → data.length = pre.length + 1 + R.length + rest.length → data.length < big →
    loopM (fun s : (List Int) × Int => gSym_L2 data (i : Int) s.1 s.2) (pre ++ x :: (R ++ rest), (pre.length : Int)) = some (pre ++ (R ++ x :: rest)) := by
  intro R
  induction R with
  | nil =>
    intro pre hi hl hb
    refine loopM_end ?_
    show gSym_L2 data (i : Int) _ _ = _
    unfold gSym_L2
    have : w64 ((i : Int) - 1) = (pre.length : Int) := by unfold big at hb; rw [w64_id (by omega) (by omega)]; simp at hi; omega
    rw [this, if_neg (by simp)]
    rfl
  | cons y R ih =>
    intro pre hi hl hb
    simp only [List.length_cons] at hi hl
    unfold big at hb
    have e1 : w64 ((i : Int) - 1) = ((i - 1 : Nat) : Int) := by rw [w64_id (by omega) (by omega)]; omega
    have e2 : w64 ((pre.length : Int) + 1) = ((pre.length + 1 : Nat) : Int) := by rw [w64_id (by omega) (by omega)]; omega
    rw [loopM_next (s' := (pre ++ y :: x :: (R ++ rest), ((pre.length + 1 : Nat) : Int)))]
    · have := ih (pre ++ [y]) (by simp; omega) (by simp; omega) (by unfold big; omega)
      simpa using this
    · show gSym_L2 data (i : Int) _ _ = _
      unfold gSym_L2
      rw [e1, e2, if_pos (by simp; omega), if_pos ⟨by omega, by omega⟩, if_pos ⟨by omega, by omega⟩, nm_bind, List.cons_append, ix_pre1 rfl, ix_pre rfl]
      simp only [Int.toNat_natCast]
      rw [swap_next]
theorem sym_L4 (data : List Int) (i : Nat) (y : Int) (pre : List Int) (hi : i = pre.length) : ∀ (n : Nat) (L rest : List Int), L.length = n → data.length = pre.length + L.length + 1 + rest.length → data.length < big →
    loopM (fun s : (List Int) × Int => gSym_L4 data (i : Int) s.1 s.2) (pre ++ (L ++ y :: rest), ((pre.length + L.length : Nat) : Int)) = some (pre ++ (y :: (L ++ rest))) := by
  intro n
  induction n with
  | zero =>
    intro L rest hn hl hb
    obtain rfl := List.eq_nil_of_length_eq_zero hn
    refine loopM_end ?_
    show gSym_L4 data (i : Int) _ _ = _
    unfold gSym_L4
    rw [if_neg (by simp; omega)]
    rfl
  | succ n ih =>
    intro L rest hn hl hb
    obtain ⟨L', z, rfl⟩ : ∃ L' z, L = L' ++ [z] := by
      rcases List.eq_nil_or_concat L with h | ⟨L', z, h⟩
      · subst h; cases hn
      · exact ⟨L', z, by simpa using h⟩
    simp only [List.length_append, List.length_singleton] at hn hl
    unfold big at hb
    have e0 : ((pre.length + (L' ++ [z]).length : Nat) : Int) = ((pre.length + L'.length + 1 : Nat) : Int) := by simp; omega
    have e1 : w64 (((pre.length + L'.length + 1 : Nat) : Int) - 1) = ((pre.length + L'.length : Nat) : Int) := by rw [w64_id (by omega) (by omega)]; omega
    have e2 : pre ++ ((L' ++ [z]) ++ y :: rest) = (pre ++ L') ++ z :: y :: rest := by simp
    rw [e0, e2, loopM_next (s' := ((pre ++ L') ++ y :: z :: rest, ((pre.length + L'.length : Nat) : Int)))]
    · have := ih L' (z :: rest) (by omega) (by simp; omega) (by unfold big; omega)
      simpa using this
    · show gSym_L4 data (i : Int) _ _ = _
      unfold gSym_L4
      rw [e1, if_pos (by simp; omega), if_pos ⟨by omega, by omega⟩, if_pos ⟨by omega, by omega⟩, nm_bind, ix_pre (by simp), ix_pre1 (by simp)]
      simp only [Int.toNat_natCast]
      have h := swap_prev (pre ++ L') rest z y
      rw [List.length_append] at h
      rw [h]
def Sep (lt : Int → Int → Bool) (T : Int → Int → Prop) (L R : List Int) : Prop := ∀ x ∈ L, ∀ y ∈ R, (lt y x = true → T y x) ∧ (lt y x = false → T x y)
def CmpOk (cmp : Int → Int → Option Int) (lt : Int → Int → Bool) (P : Int → Prop) : Prop := ∀ x y, P x → P y → ∃ r, cmp x y = some r ∧ decide (r < 0) = lt x y
section
variable {cmp : Int → Int → Option Int} {lt : Int → Int → Bool} {P : Int → Prop} {T : Int → Int → Prop}
theorem ins_L2 (data : List Int) (a : Nat) (y : Int) (pre : List Int) (ha : a = pre.length) (hc : CmpOk cmp lt P) (hy : P y) : ∀ (n : Nat) (S rest : List Int), S.length = n → (∀ x ∈ S, P x) → data.length = pre.length + S.length + 1 + rest.length → data.length < big →
    ∃ S1 S2, S = S1 ++ S2 ∧ (∀ z ∈ S2, lt y z = true) ∧ (∀ z, S1.getLast? = some z → lt y z = false) ∧
      loopM (fun s : (List Int) × Int => gIns_L2 data (a : Int) cmp s.1 s.2) (pre ++ (S ++ y :: rest), ((pre.length + S.length : Nat) : Int)) = some (pre ++ (S1 ++ y :: (S2 ++ rest))) := by
  intro n
  induction n with
  | zero =>
    intro S rest hn hP hl hb
    obtain rfl := List.eq_nil_of_length_eq_zero hn
    refine ⟨[], [], rfl, by simp, by simp, loopM_end ?_⟩
    show gIns_L2 data (a : Int) cmp _ _ = _
    unfold gIns_L2
    have e : decide (((pre.length + ([] : List Int).length : Nat) : Int) > (a : Int)) = false := by simp; omega
    rw [e]
    simp [gcall]
  | succ n ih =>
    intro S rest hn hP hl hb
    obtain ⟨S', z, rfl⟩ : ∃ S' z, S = S' ++ [z] := by
      rcases List.eq_nil_or_concat S with h | ⟨L', z, h⟩
      · subst h; cases hn
      · exact ⟨L', z, by simpa using h⟩
    simp only [List.length_append, List.length_singleton] at hn hl
    unfold big at hb
    have e0 : ((pre.length + (S' ++ [z]).length : Nat) : Int) = ((pre.length + S'.length + 1 : Nat) : Int) := by simp; omega
    have e1 : w64 (((pre.length + S'.length + 1 : Nat) : Int) - 1) = ((pre.length + S'.length : Nat) : Int) := by rw [w64_id (by omega) (by omega)]; omega
    have e2 : pre ++ ((S' ++ [z]) ++ y :: rest) = (pre ++ S') ++ z :: y :: rest := by simp
    have e3 : decide (((pre.length + S'.length + 1 : Nat) : Int) > (a : Int)) = true := decide_eq_true (by omega)
    obtain ⟨r, hr1, hr2⟩ := hc y z hy (hP z (by simp))
    have step : gIns_L2 data (a : Int) cmp ((pre ++ S') ++ z :: y :: rest) ((pre.length + S'.length + 1 : Nat) : Int) = if lt y z = true then some (.inl ((pre ++ S') ++ y :: z :: rest, ((pre.length + S'.length : Nat) : Int))) else some (.inr ((pre ++ S') ++ z :: y :: rest)) := by
      unfold gIns_L2
      rw [e3, e1, if_pos (fun _ => ⟨by omega, by omega⟩), if_pos (fun _ => ⟨by omega, by omega⟩), ix_pre1 (by simp), ix_pre (by simp)]
      show (cmp y z).bind _ = _
      rw [hr1, Option.bind_some, hr2, Bool.true_and, if_pos (show (0 : Int) ≤ _ ∧ _ from ⟨by omega, by omega⟩), if_pos (show (0 : Int) ≤ _ ∧ _ from ⟨by omega, by omega⟩), nm_bind]
      simp only [Int.toNat_natCast]
      have h := swap_prev (pre ++ S') rest z y
      rw [List.length_append] at h
      rw [h]
    by_cases hlt : lt y z = true
    · obtain ⟨S1, S2, h1, h2, h3, h4⟩ := ih S' (z :: rest) (by omega) (fun x hx => hP x (by simp [hx])) (by simp; omega) (by unfold big; omega)
      refine ⟨S1, S2 ++ [z], by rw [h1]; simp, ?_, h3, ?_⟩
      · intro x hx
        rcases List.mem_append.1 hx with hx | hx
        · exact h2 x hx
        · rw [List.mem_singleton.1 hx]; exact hlt
      · rw [e0, e2, loopM_next (s' := ((pre ++ S') ++ y :: z :: rest, ((pre.length + S'.length : Nat) : Int))) (by show gIns_L2 _ _ _ _ _ = _; rw [step, if_pos hlt])]
        rw [show (pre ++ S') ++ y :: z :: rest = pre ++ (S' ++ y :: z :: rest) by simp, h4]
        simp
    · refine ⟨S' ++ [z], [], by simp, by simp, by simpa using hlt, ?_⟩
      rw [e0, e2]
      refine loopM_end ?_
      show gIns_L2 _ _ _ _ _ = _
      rw [step, if_neg hlt]
      simp
theorem pw_last {S : List Int} (htr : ∀ x y z, T x y → T y z → T x z) (h : S.Pairwise T) {l y : Int} (hl : S.getLast? = some l) (hy : T l y) : ∀ x ∈ S, T x y := by
  obtain ⟨S', rfl⟩ : ∃ S', S = S' ++ [l] := by
    rcases List.eq_nil_or_concat S with h | ⟨L', z, h⟩
    · subst h; cases hl
    · subst h; simp at hl; subst hl; exact ⟨L', by simp⟩
  intro x hx
  rcases List.mem_append.1 hx with hx | hx
  · exact htr _ _ _ ((List.pairwise_append.1 h).2.2 x hx l (by simp)) hy
  · rw [List.mem_singleton.1 hx]; exact hy
theorem ins_L1 (data : List Int) (a : Nat) (pre post : List Int) (ha : a = pre.length) (hc : CmpOk cmp lt P) (htr : ∀ x y z, T x y → T y z → T x z) (b : Nat) : ∀ (U S O : List Int), S.Perm O → S.Pairwise T → (O ++ U).Pairwise (fun x y => (lt y x = true → T y x) ∧ (lt y x = false → T x y)) → (∀ x ∈ O ++ U, P x) → b = pre.length + S.length + U.length →
    data.length = pre.length + S.length + U.length + post.length → data.length < big →
    ∃ X, X.Perm (O ++ U) ∧ X.Pairwise T ∧ loopM (fun s : (List Int) × Int => gIns_L1 data (a : Int) (b : Int) cmp s.1 s.2) (pre ++ (S ++ (U ++ post)), ((pre.length + S.length : Nat) : Int)) = some (pre ++ (X ++ post)) := by
  intro U
  induction U with
  | nil =>
    intro S O h1 h2 h3 h4 hb hl hbb
    refine ⟨S, by simpa using h1, h2, loopM_end ?_⟩
    show gIns_L1 _ _ _ _ _ _ = _
    unfold gIns_L1
    rw [if_neg (by simp; simp at hb; omega)]
    simp
  | cons y U ih =>
    intro S O h1 h2 h3 h4 hb hl hbb
    simp only [List.length_cons] at hb hl
    have hSP : ∀ x ∈ S, P x := fun x hx => h4 x (by simp [h1.mem_iff.1 hx])
    obtain ⟨S1, S2, q1, q2, q3, q4⟩ := ins_L2 data a y pre ha hc (h4 y (by simp)) S.length S (U ++ post) rfl hSP (by simp; omega) hbb
    have hyS : ∀ x ∈ S, (lt y x = true → T y x) ∧ (lt y x = false → T x y) := fun x hx => (List.pairwise_append.1 h3).2.2 x (h1.mem_iff.1 hx) y (by simp)
    have hpw : (S1 ++ y :: S2).Pairwise T := by
      rw [q1] at h2 hyS
      have h2' := List.pairwise_append.1 h2
      have hy2 : ∀ z ∈ S2, T y z := fun z hz => (hyS z (by simp [hz])).1 (q2 z hz)
      have h1y : ∀ x ∈ S1, T x y := by
        cases hg : S1.getLast? with
        | none => rw [List.getLast?_eq_none_iff] at hg; subst hg; simp
        | some l => exact pw_last htr h2'.1 hg ((hyS l (by simp [List.mem_of_getLast? hg])).2 (q3 l hg))
      refine List.pairwise_append.2 ⟨h2'.1, List.pairwise_cons.2 ⟨hy2, h2'.2.1⟩, ?_⟩
      intro x hx z hz
      rcases List.mem_cons.1 hz with rfl | hz
      · exact h1y x hx
      · exact h2'.2.2 x hx z hz
    have hperm : (S1 ++ y :: S2).Perm (O ++ [y]) := by
      refine List.perm_middle.trans ?_
      rw [← q1]
      exact (List.Perm.cons y h1).trans (List.perm_append_singleton y O).symm
    obtain ⟨X, x1, x2, x3⟩ := ih (S1 ++ y :: S2) (O ++ [y]) hperm hpw (by simpa using h3) (by simpa using h4) (by have := congrArg List.length q1; simp at this ⊢; omega) (by have := congrArg List.length q1; simp at this ⊢; omega) hbb
    refine ⟨X, by simpa using x1, x2, ?_⟩
    unfold big at hbb
    have hw : w64 (((pre.length + S.length : Nat) : Int) + 1) = ((pre.length + S.length + 1 : Nat) : Int) := by rw [w64_id (by omega) (by omega)]; omega
    rw [loopM_next (s' := (pre ++ ((S1 ++ y :: S2) ++ (U ++ post)), ((pre.length + (S1 ++ y :: S2).length : Nat) : Int)))]
    · exact x3
    · show gIns_L1 _ _ _ _ _ _ = _
      unfold gIns_L1
      rw [if_pos (by simp; omega)]
      show (loopM _ (pre ++ (S ++ y :: (U ++ post)), _)).bind _ = _
      rw [q4, Option.bind_some]
      unfold gIns_J2
      rw [hw]
      have := congrArg List.length q1
      simp at this
      simp
      omega
theorem ins_ok (pre U post : List Int) (hc : CmpOk cmp lt P) (htr : ∀ x y z, T x y → T y z → T x z) (h3 : U.Pairwise (fun x y => (lt y x = true → T y x) ∧ (lt y x = false → T x y))) (h4 : ∀ x ∈ U, P x) (hb : (pre ++ (U ++ post)).length < big) :
    ∃ X, X.Perm U ∧ X.Pairwise T ∧ gIns (pre ++ (U ++ post)) (pre.length : Int) ((pre.length + U.length : Nat) : Int) cmp = some (pre ++ (X ++ post)) := by
  have hb' := hb
  simp only [List.length_append] at hb'
  unfold big at hb'
  unfold gIns
  cases U with
  | nil =>
    refine ⟨[], List.Perm.refl _, List.Pairwise.nil, ?_⟩
    rw [loopM_end (r := pre ++ ([] ++ post))]
    · rfl
    · show gIns_L1 _ _ _ _ _ _ = _
      unfold gIns_L1
      have : w64 ((pre.length : Int) + 1) = ((pre.length + 1 : Nat) : Int) := by rw [w64_id (by omega) (by omega)]; omega
      rw [this, if_neg (by simp; omega)]
  | cons u U =>
    obtain ⟨X, x1, x2, x3⟩ := ins_L1 (T := T) (pre ++ ((u :: U) ++ post)) pre.length pre post rfl hc htr (pre.length + (u :: U).length) U [u] [u] (List.Perm.refl _) (by simp) (by simpa using h3) (by simpa using h4) (by simp; omega) (by simp; omega) hb
    refine ⟨X, x1, x2, ?_⟩
    have : w64 ((pre.length : Int) + 1) = ((pre.length + [u].length : Nat) : Int) := by rw [w64_id (by omega) (by omega)]; simp
    rw [this]
    have e : pre ++ (u :: U ++ post) = pre ++ ([u] ++ (U ++ post)) := by simp
    rw [e] at x3 ⊢
    rw [x3]
    rfl
end
variable {cmp : Int → Int → Option Int} {lt : Int → Int → Bool} {P : Int → Prop} {T : Int → Int → Prop}
theorem set_mid {α : Type} (pre t : List α) (x y : α) : (pre ++ x :: t).set pre.length y = pre ++ y :: t := by
  rw [List.set_append_right _ _ (Nat.le_refl _), Nat.sub_self]; rfl
theorem swp_L1 (data Q M : List Int) (a b : Nat) (nn : Nat) : ∀ (A B A' B' : List Int) (pre : List Int), A.length = B.length → A'.length = B'.length → a = pre.length → b = pre.length + A'.length + A.length + M.length → nn = A'.length + A.length →
    data.length = pre.length + A'.length + A.length + M.length + B'.length + B.length + Q.length → data.length < big →
    loopM (fun s : (List Int) × Int => gSwp_L1 data (a : Int) (b : Int) (nn : Int) s.1 s.2) (pre ++ (B' ++ (A ++ (M ++ (A' ++ (B ++ Q))))), (A'.length : Int)) = some (pre ++ (B' ++ (B ++ (M ++ (A' ++ (A ++ Q)))))) := by
  intro A
  induction A with
  | nil =>
    intro B A' B' pre h1 h2 ha hb hn hl hbb
    obtain rfl := List.eq_nil_of_length_eq_zero h1.symm
    refine loopM_end ?_
    show gSwp_L1 _ _ _ _ _ _ = _
    unfold gSwp_L1
    rw [if_neg (by simp; simp at hn; omega)]
  | cons x A ih =>
    intro B A' B' pre h1 h2 ha hb hn hl hbb
    cases B with
    | nil => cases h1
    | cons y B =>
      simp only [List.length_cons] at h1 hb hn hl
      unfold big at hbb
      have e1 : w64 ((b : Int) + (A'.length : Int)) = ((b + A'.length : Nat) : Int) := by rw [w64_id (by omega) (by omega)]; omega
      have e2 : w64 ((a : Int) + (A'.length : Int)) = ((a + A'.length : Nat) : Int) := by rw [w64_id (by omega) (by omega)]; omega
      have e3 : w64 ((A'.length : Int) + 1) = ((A'.length + 1 : Nat) : Int) := by rw [w64_id (by omega) (by omega)]; omega
      have f1 : pre ++ (B' ++ (x :: A ++ (M ++ (A' ++ (y :: B ++ Q))))) = (pre ++ B') ++ x :: (A ++ (M ++ (A' ++ (y :: B ++ Q)))) := by simp
      have f2 : pre ++ (B' ++ (x :: A ++ (M ++ (A' ++ (y :: B ++ Q))))) = (pre ++ B' ++ x :: A ++ M ++ A') ++ y :: (B ++ Q) := by simp
      have g1 : ix (pre ++ (B' ++ (x :: A ++ (M ++ (A' ++ (y :: B ++ Q)))))) ((a + A'.length : Nat) : Int) = x := by rw [f1]; exact ix_pre (by simp; omega)
      have g2 : ix (pre ++ (B' ++ (x :: A ++ (M ++ (A' ++ (y :: B ++ Q)))))) ((b + A'.length : Nat) : Int) = y := by rw [f2]; exact ix_pre (by simp; omega)
      have k1 : (pre ++ (B' ++ (x :: A ++ (M ++ (A' ++ (y :: B ++ Q)))))).set (a + A'.length) y = (pre ++ B') ++ y :: (A ++ (M ++ (A' ++ (y :: B ++ Q)))) := by
        rw [f1, show a + A'.length = (pre ++ B').length by simp; omega, set_mid]
      have k2 : ((pre ++ B') ++ y :: (A ++ (M ++ (A' ++ (y :: B ++ Q))))).set (b + A'.length) x = pre ++ ((B' ++ [y]) ++ (A ++ (M ++ ((A' ++ [x]) ++ (B ++ Q))))) := by
        rw [show (pre ++ B') ++ y :: (A ++ (M ++ (A' ++ (y :: B ++ Q)))) = (pre ++ B' ++ y :: A ++ M ++ A') ++ y :: (B ++ Q) by simp, show b + A'.length = (pre ++ B' ++ y :: A ++ M ++ A').length by simp; omega, set_mid]
        simp
      rw [loopM_next (s' := (pre ++ ((B' ++ [y]) ++ (A ++ (M ++ ((A' ++ [x]) ++ (B ++ Q))))), ((A'.length + 1 : Nat) : Int)))]
      · have := ih B (A' ++ [x]) (B' ++ [y]) pre (by omega) (by simp; omega) ha (by simp; omega) (by simp; omega) (by simp; omega) (by unfold big; omega)
        simp only [List.length_append, List.length_singleton] at this
        rw [this]
        simp
      · show gSwp_L1 _ _ _ _ _ _ = _
        unfold gSwp_L1
        rw [if_pos (by simp; omega), e1, e2, if_pos ⟨by omega, by omega⟩, if_pos ⟨by omega, by omega⟩, nm_bind, g1, g2, e3]
        simp only [Int.toNat_natCast]
        rw [k1, k2]
theorem swp_ok (pre A M B Q : List Int) (a b nn : Int) (h : A.length = B.length) (ha : a = (pre.length : Int)) (hb : b = ((pre.length + A.length + M.length : Nat) : Int)) (hn : nn = (A.length : Int)) (hbb : (pre ++ (A ++ (M ++ (B ++ Q)))).length < big) :
    gSwp (pre ++ (A ++ (M ++ (B ++ Q)))) a b nn cmp = some (pre ++ (B ++ (M ++ (A ++ Q)))) := by
  subst ha; subst hb; subst hn
  unfold gSwp
  have := swp_L1 (pre ++ (A ++ (M ++ (B ++ Q)))) Q M pre.length (pre.length + A.length + M.length) A.length A B [] [] pre h rfl rfl (by simp) (by simp) (by simp; omega) hbb
  simp only [List.nil_append] at this
  rw [show ((([] : List Int).length : Nat) : Int) = (0 : Int) from rfl] at this
  rw [this]
  rfl
theorem rot_loop (m : Nat) : ∀ (n : Nat) (U V pre post : List Int), U.length + V.length = n → U ≠ [] → V ≠ [] → m = pre.length + U.length → (pre ++ (U ++ (V ++ post))).length < big →
    ∃ (D : List Int) (i : Int), loopM (fun s : (List Int) × Int × Int => gRot_L1 (m : Int) cmp s.1 s.2.1 s.2.2) (pre ++ (U ++ (V ++ post)), (U.length : Int), (V.length : Int)) = some (D, i) ∧
      gRot_J1 (m : Int) cmp D i = some (pre ++ (V ++ (U ++ post))) := by
  intro n
  induction n using Nat.strongRecOn with
  | _ n ih =>
    intro U V pre post hn hU hV hm hbb
    have hU0 : 0 < U.length := List.length_pos_iff.2 hU
    have hV0 : 0 < V.length := List.length_pos_iff.2 hV
    have hlen := hbb
    simp only [List.length_append] at hlen
    unfold big at hlen
    have em : w64 ((m : Int) - (U.length : Int)) = (pre.length : Int) := by rw [w64_id (by omega) (by omega)]; omega
    rcases Nat.lt_trichotomy U.length V.length with h | h | h
    · -- V = V1 ++ V2, |V2| = |U|
      obtain ⟨V1, V2, rfl, hv⟩ : ∃ V1 V2, V = V1 ++ V2 ∧ V2.length = U.length := ⟨V.take (V.length - U.length), V.drop (V.length - U.length), (List.take_append_drop _ _).symm, by rw [List.length_drop]; omega⟩
      simp only [List.length_append] at h hn hlen hV0
      have hsw := swp_ok (cmp := cmp) pre U V1 V2 post ((pre.length : Nat) : Int) ((pre.length + U.length + V1.length : Nat) : Int) (U.length : Int) hv.symm rfl rfl rfl (by simp only [List.length_append]; unfold big; omega)
      have e1 : w64 (w64 ((m : Int) + ((V1 ++ V2).length : Int)) - (U.length : Int)) = ((pre.length + U.length + V1.length : Nat) : Int) := by
        rw [w64_id (n := (m : Int) + _) (by simp; omega) (by simp; omega), w64_id (by simp; omega) (by simp; omega)]; simp; omega
      have e2 : w64 (((V1 ++ V2).length : Int) - (U.length : Int)) = (V1.length : Int) := by rw [w64_id (by simp; omega) (by simp; omega)]; simp; omega
      obtain ⟨D, i, d1, d2⟩ := ih (V2.length + V1.length) (by omega) V2 V1 pre (U ++ post) rfl (by intro e; subst e; simp at hv; omega) (by intro e; subst e; simp at h; omega) (by omega) (by simp only [List.length_append]; unfold big; omega)
      refine ⟨D, i, ?_, by rw [d2]; simp⟩
      rw [loopM_next (s' := (pre ++ (V2 ++ (V1 ++ (U ++ post))), (V2.length : Int), (V1.length : Int)))]
      · exact d1
      · show gRot_L1 _ _ _ _ _ = _
        unfold gRot_L1
        rw [if_pos (by simp; omega), if_neg (by simp; omega), em, e1, show pre ++ (U ++ ((V1 ++ V2) ++ post)) = pre ++ (U ++ (V1 ++ (V2 ++ post))) by simp, hsw, Option.bind_some, e2, hv]
    · refine ⟨_, _, loopM_end (r := (pre ++ (U ++ (V ++ post)), (U.length : Int))) ?_, ?_⟩
      · show gRot_L1 _ _ _ _ _ = _
        unfold gRot_L1
        rw [if_neg (by simp; omega)]
      · unfold gRot_J1
        have hsw := swp_ok (cmp := cmp) pre U [] V post ((pre.length : Nat) : Int) (m : Int) (U.length : Int) h rfl (by rw [hm]; rfl) rfl (by simpa using hbb)
        rw [em]
        simp only [List.nil_append] at hsw
        rw [hsw]
        rfl
    · obtain ⟨U1, U2, rfl, hu⟩ : ∃ U1 U2, U = U1 ++ U2 ∧ U1.length = V.length := ⟨U.take V.length, U.drop V.length, (List.take_append_drop _ _).symm, by rw [List.length_take]; omega⟩
      simp only [List.length_append] at h hn hlen hU0 hm em
      have hsw := swp_ok (cmp := cmp) pre U1 U2 V post ((pre.length : Nat) : Int) (m : Int) (V.length : Int) hu rfl (by rw [hm]; omega) (by rw [hu]) (by simp only [List.length_append]; unfold big; omega)
      have e2 : w64 (((U1 ++ U2).length : Int) - (V.length : Int)) = (U2.length : Int) := by rw [w64_id (by simp; omega) (by simp; omega)]; simp; omega
      have em' : w64 ((m : Int) - ((U1 ++ U2).length : Int)) = (pre.length : Int) := by rw [List.length_append]; exact em
      obtain ⟨D, i, d1, d2⟩ := ih (U2.length + U1.length) (by omega) U2 U1 (pre ++ V) post rfl (by intro e; subst e; simp at h; omega) (by intro e; subst e; simp at hu; omega) (by simp; omega) (by simp only [List.length_append]; unfold big; omega)
      refine ⟨D, i, ?_, by rw [d2]; simp⟩
      rw [loopM_next (s' := (pre ++ V ++ (U2 ++ (U1 ++ post)), (U2.length : Int), (U1.length : Int)))]
      · exact d1
      · show gRot_L1 _ _ _ _ _ = _
        unfold gRot_L1
        rw [if_pos (by simp; omega), if_pos (by simp; omega), em', show pre ++ ((U1 ++ U2) ++ (V ++ post)) = pre ++ (U1 ++ (U2 ++ (V ++ post))) by simp, hsw, Option.bind_some, e2, hu]
        simp
theorem rot_ok (pre U V post : List Int) (a m b : Int) (hU : U ≠ []) (hV : V ≠ []) (ha : a = (pre.length : Int)) (hm : m = ((pre.length + U.length : Nat) : Int)) (hb : b = ((pre.length + U.length + V.length : Nat) : Int)) (hbb : (pre ++ (U ++ (V ++ post))).length < big) :
    gRot (pre ++ (U ++ (V ++ post))) a m b cmp = some (pre ++ (V ++ (U ++ post))) := by
  subst ha; subst hm; subst hb
  unfold gRot
  have hlen := hbb
  simp only [List.length_append] at hlen
  unfold big at hlen
  have e1 : w64 (((pre.length + U.length : Nat) : Int) - (pre.length : Int)) = (U.length : Int) := by rw [w64_id (by omega) (by omega)]; omega
  have e2 : w64 (((pre.length + U.length + V.length : Nat) : Int) - ((pre.length + U.length : Nat) : Int)) = (V.length : Int) := by rw [w64_id (by omega) (by omega)]; omega
  rw [e1, e2]
  obtain ⟨D, i, d1, d2⟩ := rot_loop (cmp := cmp) (pre.length + U.length) _ U V pre post rfl hU hV rfl hbb
  rw [d1]
  exact d2
variable {cmp : Int → Int → Option Int} {lt : Int → Int → Bool} {P : Int → Prop} {T : Int → Int → Prop}
theorem ix_app3 {A B C D : List Int} {k : Nat} (h0 : A.length + B.length ≤ k) (h1 : k < A.length + B.length + C.length) : ∃ hk : k - (A.length + B.length) < C.length, ix (A ++ (B ++ (C ++ D))) (k : Int) = C[k - (A.length + B.length)] := by
  refine ⟨by omega, ?_⟩
  unfold ix
  simp only [Int.toNat_natCast, List.getD_eq_getElem?_getD]
  rw [List.getElem?_append_right (by omega), List.getElem?_append_right (by omega), List.getElem?_append_left (by omega), show k - A.length - B.length = k - (A.length + B.length) by omega, List.getElem?_eq_getElem (by omega)]
  rfl
theorem ix_app2 {A C D : List Int} {k : Nat} (h0 : A.length ≤ k) (h1 : k < A.length + C.length) : ∃ hk : k - A.length < C.length, ix (A ++ (C ++ D)) (k : Int) = C[k - A.length] := by
  have := ix_app3 (A := A) (B := []) (C := C) (D := D) (k := k) (by simpa using h0) (by simpa using h1)
  simpa using this
theorem pw_get {S : List Int} (h : S.Pairwise T) {i j : Nat} (hij : i < j) (hj : j < S.length) : T S[i] S[j] := List.pairwise_iff_getElem.1 h i j (by omega) hj hij
theorem pw_take_last {S : List Int} (htr : ∀ x y z, T x y → T y z → T x z) (h : S.Pairwise T) {k : Nat} (hk : k < S.length) {y : Int} (hy : T S[k] y) : ∀ x ∈ S.take (k + 1), T x y := by
  intro x hx
  obtain ⟨i, hi, rfl⟩ := List.getElem_of_mem hx
  rw [List.length_take] at hi
  rw [List.getElem_take]
  rcases Nat.lt_or_ge i k with h1 | h1
  · exact htr _ _ _ (pw_get h h1 hk) hy
  · obtain rfl : i = k := by omega
    exact hy
theorem pw_drop_first {S : List Int} (htr : ∀ x y z, T x y → T y z → T x z) (h : S.Pairwise T) {k : Nat} (hk : k < S.length) {y : Int} (hy : T y S[k]) : ∀ x ∈ S.drop k, T y x := by
  intro x hx
  obtain ⟨i, hi, rfl⟩ := List.getElem_of_mem hx
  rw [List.length_drop] at hi
  rw [List.getElem_drop]
  rcases Nat.eq_zero_or_pos i with h1 | h1
  · subst h1; simpa using hy
  · exact htr _ _ _ hy (pw_get h (by omega) (by omega))
theorem Sep.mono {L R L' R' : List Int} (h : Sep lt T L R) (h1 : ∀ x ∈ L', x ∈ L) (h2 : ∀ x ∈ R', x ∈ R) : Sep lt T L' R' := fun x hx y hy => h x (h1 x hx) y (h2 y hy)
theorem sym_one (rf : List Int → Int → Int → Int → Option (List Int)) (hc : CmpOk cmp lt P) (htr : ∀ x y z, T x y → T y z → T x z) (pre post R : List Int) (x : Int) (hR : R ≠ []) (hT : R.Pairwise T) (hs : Sep lt T [x] R) (hP : P x ∧ ∀ y ∈ R, P y) (hbb : (pre ++ ([x] ++ (R ++ post))).length < big) :
    ∃ X, X.Perm ([x] ++ R) ∧ X.Pairwise T ∧ gSym_S rf (pre ++ ([x] ++ (R ++ post))) (pre.length : Int) ((pre.length + 1 : Nat) : Int) ((pre.length + 1 + R.length : Nat) : Int) cmp = some (pre ++ (X ++ post)) := by
  have hlen := hbb
  simp only [List.length_append, List.length_singleton] at hlen
  unfold big at hlen
  have hdl : (pre ++ ([x] ++ (R ++ post))).length = pre.length + 1 + R.length + post.length := by simp; omega
  have e1 : w64 (((pre.length + 1 : Nat) : Int) - (pre.length : Int)) = 1 := by rw [w64_id (by omega) (by omega)]; omega
  obtain ⟨k, k1, k2, k3, k4, k5⟩ := bsearch (f := fun s : Int × Int => gSym_L1 (pre ++ ([x] ++ (R ++ post))) (pre.length : Int) cmp s.1 s.2) (fun c => lt (ix (pre ++ ([x] ++ (R ++ post))) (c : Int)) x) (pre.length + 1) (pre.length + 1 + R.length) (by omega) (by
    intro i j hi hij hj
    show gSym_L1 _ _ _ _ _ = _
    unfold gSym_L1
    rw [if_pos (by simp; omega), mid_eq (by omega)]
    have hm : i ≤ (i + j) / 2 ∧ (i + j) / 2 < j := by omega
    generalize (i + j) / 2 = c at hm
    rw [if_pos ⟨by omega, by omega⟩, if_pos ⟨by omega, by omega⟩]
    obtain ⟨hk, e⟩ := ix_app3 (A := pre) (B := [x]) (C := R) (D := post) (k := c) (by simp; omega) (by simp; omega)
    obtain ⟨r, hr1, hr2⟩ := hc (ix (pre ++ ([x] ++ (R ++ post))) (c : Int)) x (by rw [e]; exact hP.2 _ (List.getElem_mem _)) hP.1
    have ex : ix (pre ++ ([x] ++ (R ++ post))) (pre.length : Int) = x := ix_pre (pre := pre) (x := x) (t := R ++ post) rfl
    rw [ex, hr1, Option.bind_some, hr2]
    have w1 : w64 ((c : Int) + 1) = ((c + 1 : Nat) : Int) := by rw [w64_id (by omega) (by omega)]; omega
    rw [w1]
    split <;> rfl) (by
    intro i hi hj
    show gSym_L1 _ _ _ _ _ = _
    unfold gSym_L1
    rw [if_neg (by simp)])
  obtain ⟨q, rfl⟩ : ∃ q, k = pre.length + 1 + q := ⟨k - (pre.length + 1), by omega⟩
  have hq : q ≤ R.length := by omega
  have hix : ∀ c : Nat, c < R.length → ∃ h : c < R.length, ix (pre ++ ([x] ++ (R ++ post))) ((pre.length + 1 + c : Nat) : Int) = R[c] := fun c hcl => by
    obtain ⟨hk, e⟩ := ix_app3 (A := pre) (B := [x]) (C := R) (D := post) (k := pre.length + 1 + c) (by simp) (by simp; omega)
    refine ⟨hcl, ?_⟩
    rw [e]; congr 1; simp
  refine ⟨R.take q ++ x :: R.drop q, ?_, ?_, ?_⟩
  · refine List.perm_middle.trans ?_
    rw [List.take_append_drop]
    exact List.Perm.refl _
  · have h1 : ∀ y ∈ R.take q, T y x := by
      intro y hy
      have h0 : 0 < q := by
        rcases Nat.eq_zero_or_pos q with h | h
        · subst h; simp at hy
        · exact h
      obtain ⟨hc1, e⟩ := hix (q - 1) (by omega)
      have := k4 (by omega)
      rw [show pre.length + 1 + q - 1 = pre.length + 1 + (q - 1) by omega, e] at this
      have hT1 := (hs x (by simp) R[q - 1] (List.getElem_mem _)).1 this
      have := pw_take_last htr hT hc1 hT1 y
      rw [show q - 1 + 1 = q by omega] at this
      exact this hy
    have h2 : ∀ y ∈ R.drop q, T x y := by
      intro y hy
      have h0 : q < R.length := by
        rcases Nat.lt_or_ge q R.length with h | h
        · exact h
        · rw [List.drop_of_length_le h] at hy; cases hy
      obtain ⟨hc1, e⟩ := hix q h0
      have := k5 (by omega)
      rw [e] at this
      exact pw_drop_first htr hT hc1 ((hs x (by simp) R[q] (List.getElem_mem _)).2 this) y hy
    have hT' := hT
    rw [← List.take_append_drop q R] at hT'
    have hT2 := List.pairwise_append.1 hT'
    refine List.pairwise_append.2 ⟨hT2.1, List.pairwise_cons.2 ⟨h2, hT2.2.1⟩, ?_⟩
    intro a ha b hb
    rcases List.mem_cons.1 hb with rfl | hb
    · exact h1 a ha
    · exact hT2.2.2 a ha b hb
  · unfold gSym_S
    rw [e1, if_pos (show ((1 : Int) == 1) = true from rfl), k3, Option.bind_some]
    unfold gSym_J9
    have := sym_L2 (pre ++ ([x] ++ (R ++ post))) (pre.length + 1 + q) x (R.drop q ++ post) (R.take q) pre (by rw [List.length_take, Nat.min_eq_left hq]; omega) (by rw [hdl]; simp; omega) hbb
    rw [show R.take q ++ (R.drop q ++ post) = R ++ post by rw [← List.append_assoc, List.take_append_drop]] at this
    rw [show pre ++ x :: (R ++ post) = pre ++ ([x] ++ (R ++ post)) from rfl] at this
    rw [this]
    simp [gSym_J10]
theorem sym_last (rf : List Int → Int → Int → Int → Option (List Int)) (hc : CmpOk cmp lt P) (htr : ∀ x y z, T x y → T y z → T x z) (pre post L : List Int) (y : Int) (hL : 2 ≤ L.length) (hT : L.Pairwise T) (hs : Sep lt T L [y]) (hP : P y ∧ ∀ x ∈ L, P x) (hbb : (pre ++ (L ++ ([y] ++ post))).length < big) :
    ∃ X, X.Perm (L ++ [y]) ∧ X.Pairwise T ∧ gSym_S rf (pre ++ (L ++ ([y] ++ post))) (pre.length : Int) ((pre.length + L.length : Nat) : Int) ((pre.length + L.length + 1 : Nat) : Int) cmp = some (pre ++ (X ++ post)) := by
  have hlen := hbb
  simp only [List.length_append, List.length_singleton] at hlen
  unfold big at hlen
  have hdl : (pre ++ (L ++ ([y] ++ post))).length = pre.length + L.length + 1 + post.length := by simp; omega
  have e1 : w64 (((pre.length + L.length : Nat) : Int) - (pre.length : Int)) = (L.length : Int) := by rw [w64_id (by omega) (by omega)]; omega
  have e2 : w64 (((pre.length + L.length + 1 : Nat) : Int) - ((pre.length + L.length : Nat) : Int)) = 1 := by rw [w64_id (by omega) (by omega)]; omega
  have ey : ix (pre ++ (L ++ ([y] ++ post))) ((pre.length + L.length : Nat) : Int) = y := by
    rw [show pre ++ (L ++ ([y] ++ post)) = (pre ++ L) ++ y :: post by simp]; exact ix_pre (by simp)
  obtain ⟨k, k1, k2, k3, k4, k5⟩ := bsearch (f := fun s : Int × Int => gSym_L3 (pre ++ (L ++ ([y] ++ post))) ((pre.length + L.length : Nat) : Int) cmp s.1 s.2) (fun c => !(lt y (ix (pre ++ (L ++ ([y] ++ post))) (c : Int)))) pre.length (pre.length + L.length) (by omega) (by
    intro i j hi hij hj
    show gSym_L3 _ _ _ _ _ = _
    unfold gSym_L3
    rw [if_pos (by simp; omega), mid_eq (by omega)]
    have hm : i ≤ (i + j) / 2 ∧ (i + j) / 2 < j := by omega
    generalize (i + j) / 2 = c at hm
    rw [if_pos ⟨by omega, by omega⟩, if_pos ⟨by omega, by omega⟩, ey]
    obtain ⟨hk, e⟩ := ix_app2 (A := pre) (C := L) (D := [y] ++ post) (k := c) (by omega) (by omega)
    obtain ⟨r, hr1, hr2⟩ := hc y (ix (pre ++ (L ++ ([y] ++ post))) (c : Int)) hP.1 (by rw [e]; exact hP.2 _ (List.getElem_mem _))
    rw [hr1, Option.bind_some, hr2]
    have w1 : w64 ((c : Int) + 1) = ((c + 1 : Nat) : Int) := by rw [w64_id (by omega) (by omega)]; omega
    rw [w1]
    split <;> rfl) (by
    intro i hi hj
    show gSym_L3 _ _ _ _ _ = _
    unfold gSym_L3
    rw [if_neg (by simp)])
  obtain ⟨q, rfl⟩ : ∃ q, k = pre.length + q := ⟨k - pre.length, by omega⟩
  have hq : q ≤ L.length := by omega
  have hix : ∀ c : Nat, c < L.length → ∃ h : c < L.length, ix (pre ++ (L ++ ([y] ++ post))) ((pre.length + c : Nat) : Int) = L[c] := fun c hcl => by
    obtain ⟨hk, e⟩ := ix_app2 (A := pre) (C := L) (D := [y] ++ post) (k := pre.length + c) (by omega) (by omega)
    refine ⟨hcl, ?_⟩
    rw [e]; congr 1; simp
  refine ⟨L.take q ++ y :: L.drop q, ?_, ?_, ?_⟩
  · refine List.perm_middle.trans ?_
    rw [List.take_append_drop]
    exact (List.perm_append_singleton y L).symm
  · have h1 : ∀ z ∈ L.take q, T z y := by
      intro z hz
      have h0 : 0 < q := by
        rcases Nat.eq_zero_or_pos q with h | h
        · subst h; simp at hz
        · exact h
      obtain ⟨hc1, e⟩ := hix (q - 1) (by omega)
      have := k4 (by omega)
      rw [show pre.length + q - 1 = pre.length + (q - 1) by omega, e] at this
      have hT1 := (hs L[q - 1] (List.getElem_mem _) y (by simp)).2 (by simpa using this)
      have := pw_take_last htr hT hc1 hT1 z
      rw [show q - 1 + 1 = q by omega] at this
      exact this hz
    have h2 : ∀ z ∈ L.drop q, T y z := by
      intro z hz
      have h0 : q < L.length := by
        rcases Nat.lt_or_ge q L.length with h | h
        · exact h
        · rw [List.drop_of_length_le h] at hz; cases hz
      obtain ⟨hc1, e⟩ := hix q h0
      have := k5 (by omega)
      rw [e] at this
      exact pw_drop_first htr hT hc1 ((hs L[q] (List.getElem_mem _) y (by simp)).1 (by simpa using this)) z hz
    have hT' := hT
    rw [← List.take_append_drop q L] at hT'
    have hT2 := List.pairwise_append.1 hT'
    refine List.pairwise_append.2 ⟨hT2.1, List.pairwise_cons.2 ⟨h2, hT2.2.1⟩, ?_⟩
    intro a ha b hb
    rcases List.mem_cons.1 hb with rfl | hb
    · exact h1 a ha
    · exact hT2.2.2 a ha b hb
  · unfold gSym_S
    rw [e1, if_neg (by simp; omega), e2, if_pos (show ((1 : Int) == 1) = true from rfl), k3, Option.bind_some]
    unfold gSym_J11
    have := sym_L4 (pre ++ (L ++ ([y] ++ post))) (pre.length + q) y (pre ++ L.take q) (by rw [List.length_append, List.length_take, Nat.min_eq_left hq]) (L.drop q).length (L.drop q) post rfl (by rw [hdl]; simp; omega) hbb
    rw [show (pre ++ L.take q) ++ (L.drop q ++ y :: post) = pre ++ (L ++ ([y] ++ post)) by rw [List.append_assoc, ← List.append_assoc (L.take q), List.take_append_drop]; rfl, show (pre ++ L.take q).length + (L.drop q).length = pre.length + L.length by simp; omega] at this
    rw [this]
    simp [gSym_J12]
theorem sym_ok (hc : CmpOk cmp lt P) (htr : ∀ x y z, T x y → T y z → T x z) : ∀ (fuel : Nat) (pre L R post : List Int), L.length + R.length ≤ fuel → L ≠ [] → R ≠ [] → L.Pairwise T → R.Pairwise T → Sep lt T L R → (∀ x ∈ L ++ R, P x) → (pre ++ (L ++ (R ++ post))).length < big →
    ∃ X, X.Perm (L ++ R) ∧ X.Pairwise T ∧ gSym_R cmp fuel (pre ++ (L ++ (R ++ post))) (pre.length : Int) ((pre.length + L.length : Nat) : Int) ((pre.length + L.length + R.length : Nat) : Int) = some (pre ++ (X ++ post)) := by
  intro fuel
  induction fuel with
  | zero => intro pre L R post h hL; have := List.length_pos_iff.2 hL; omega
  | succ fuel ih =>
    intro pre L R post hf hL hR hLT hRT hs hP hbb
    have hl0 := List.length_pos_iff.2 hL
    have hr0 := List.length_pos_iff.2 hR
    have hlen := hbb
    simp only [List.length_append] at hlen
    unfold big at hlen
    show ∃ X, _ ∧ _ ∧ gSym_S (gSym_R cmp fuel) _ _ _ _ cmp = _
    by_cases h1 : L.length = 1
    · obtain ⟨x, rfl⟩ := List.length_eq_one_iff.1 h1
      exact sym_one _ hc htr pre post R x hR hRT hs ⟨hP x (by simp), fun y hy => hP y (by simp [hy])⟩ hbb
    by_cases h2 : R.length = 1
    · obtain ⟨y, rfl⟩ := List.length_eq_one_iff.1 h2
      exact sym_last _ hc htr pre post L y (by omega) hLT hs ⟨hP y (by simp), fun x hx => hP x (by simp [hx])⟩ hbb
    have e1 : w64 (((pre.length + L.length : Nat) : Int) - (pre.length : Int)) = (L.length : Int) := by rw [w64_id (by omega) (by omega)]; omega
    have e2 : w64 (((pre.length + L.length + R.length : Nat) : Int) - ((pre.length + L.length : Nat) : Int)) = (R.length : Int) := by rw [w64_id (by omega) (by omega)]; omega
    have hM : ∃ M, M = (pre.length + (pre.length + L.length + R.length)) / 2 := ⟨_, rfl⟩
    obtain ⟨M, hM⟩ := hM
    have eM := mid_eq (i := pre.length) (j := pre.length + L.length + R.length) (by omega)
    rw [← hM] at eM
    have eN : w64 ((M : Int) + ((pre.length + L.length : Nat) : Int)) = ((M + (pre.length + L.length) : Nat) : Int) := by rw [w64_id (by omega) (by omega)]; omega
    have hdl : (pre ++ (L ++ (R ++ post))).length = pre.length + L.length + R.length + post.length := by simp; omega
    -- the search
    have key : ∀ s0 r0 : Nat, s0 ≤ r0 → pre.length ≤ s0 → r0 ≤ pre.length + L.length → r0 ≤ M ∨ r0 = pre.length + L.length → M + (pre.length + L.length) ≤ s0 + (pre.length + L.length + R.length) → pre.length + L.length ≤ M + (pre.length + L.length) - r0 →
        (s0 = pre.length ∨ M + (pre.length + L.length) = s0 + (pre.length + L.length + R.length)) → (r0 = pre.length + L.length ∨ r0 = M) →
        ∃ X, X.Perm (L ++ R) ∧ X.Pairwise T ∧ gSym_J13 (pre ++ (L ++ (R ++ post))) (pre.length : Int) ((pre.length + L.length : Nat) : Int) ((pre.length + L.length + R.length : Nat) : Int) cmp (gSym_R cmp fuel) (s0 : Int) (r0 : Int) = some (pre ++ (X ++ post)) := by
      intro s0 r0 a1 a2 a3 a4 a5 a6 a7 a8
      have hMb : pre.length ≤ M ∧ M ≤ pre.length + L.length + R.length := by omega
      obtain ⟨k, k1, k2, k3, k4, k5⟩ := bsearch (f := fun s : Int × Int => gSym_L5 (pre ++ (L ++ (R ++ post))) (pre.length : Int) ((pre.length + L.length : Nat) : Int) ((pre.length + L.length + R.length : Nat) : Int) cmp s.1 s.2)
        (fun c => !(lt (ix (pre ++ (L ++ (R ++ post))) ((M + (pre.length + L.length) - 1 - c : Nat) : Int)) (ix (pre ++ (L ++ (R ++ post))) (c : Int)))) s0 r0 a1 (by
        intro i j hi hij hj
        show gSym_L5 _ _ _ _ _ _ _ = _
        unfold gSym_L5
        rw [if_pos (by simp; omega), mid_eq (i := i) (j := j) (by omega), eM, eN]
        have hm : i ≤ (i + j) / 2 ∧ (i + j) / 2 < j := by omega
        generalize (i + j) / 2 = c at hm
        have w0 : w64 (w64 (((M + (pre.length + L.length) : Nat) : Int) - 1) - (c : Int)) = ((M + (pre.length + L.length) - 1 - c : Nat) : Int) := by
          rw [w64_id (n := ((M + (pre.length + L.length) : Nat) : Int) - 1) (by omega) (by omega), w64_id (by omega) (by omega)]; omega
        rw [w0, if_pos ⟨by omega, by omega⟩, if_pos ⟨by omega, by omega⟩]
        obtain ⟨hk, e⟩ := ix_app2 (A := pre) (C := L) (D := R ++ post) (k := c) (by omega) (by omega)
        obtain ⟨hk', e'⟩ := ix_app3 (A := pre) (B := L) (C := R) (D := post) (k := M + (pre.length + L.length) - 1 - c) (by omega) (by omega)
        obtain ⟨r, hr1, hr2⟩ := hc (ix (pre ++ (L ++ (R ++ post))) ((M + (pre.length + L.length) - 1 - c : Nat) : Int)) (ix (pre ++ (L ++ (R ++ post))) (c : Int)) (by rw [e']; exact hP _ (by simp)) (by rw [e]; exact hP _ (by simp))
        rw [hr1, Option.bind_some, hr2]
        have w1 : w64 ((c : Int) + 1) = ((c + 1 : Nat) : Int) := by rw [w64_id (by omega) (by omega)]; omega
        rw [w1]
        split <;> rfl) (by
        intro i hi hj
        show gSym_L5 _ _ _ _ _ _ _ = _
        unfold gSym_L5
        rw [if_neg (by simp)])
      unfold gSym_J13
      rw [k3, Option.bind_some]
      -- the four parts
      obtain ⟨u, rfl⟩ : ∃ u, k = pre.length + u := ⟨k - pre.length, by omega⟩
      have hu : u ≤ L.length := by omega
      obtain ⟨v, hv⟩ : ∃ v, M = pre.length + u + v := ⟨M - (pre.length + u), by omega⟩
      have hv' : v ≤ R.length := by omega
      have hL12 := List.take_append_drop u L
      have hR12 := List.take_append_drop v R
      have lu : (L.take u).length = u := by rw [List.length_take]; omega
      have ld : (L.drop u).length = L.length - u := List.length_drop
      have ru : (R.take v).length = v := by rw [List.length_take]; omega
      have rd : (R.drop v).length = R.length - v := List.length_drop
      have eE : w64 (((M + (pre.length + L.length) : Nat) : Int) - ((pre.length + u : Nat) : Int)) = ((pre.length + L.length + v : Nat) : Int) := by rw [w64_id (by omega) (by omega)]; omega
      -- what stands ahead is less
      have hLS := hLT
      rw [← hL12] at hLS
      have hRS := hRT
      rw [← hR12] at hRS
      have hL3 := List.pairwise_append.1 hLS
      have hR3 := List.pairwise_append.1 hRS
      have c1 : ∀ x ∈ L.take u, ∀ y ∈ R.drop v, T x y := by
        intro x hx y hy
        have hu0 : 0 < u := by
          rcases Nat.eq_zero_or_pos u with h | h
          · subst h; simp at hx
          · exact h
        have hv0 : v < R.length := by
          rcases Nat.lt_or_ge v R.length with h | h
          · exact h
          · rw [List.drop_of_length_le h] at hy; cases hy
        have hk4 := k4 (by omega)
        rw [show M + (pre.length + L.length) - 1 - (pre.length + u - 1) = pre.length + L.length + v by omega] at hk4
        obtain ⟨hk, e⟩ := ix_app2 (A := pre) (C := L) (D := R ++ post) (k := pre.length + u - 1) (by omega) (by omega)
        obtain ⟨hk', e'⟩ := ix_app3 (A := pre) (B := L) (C := R) (D := post) (k := pre.length + L.length + v) (by omega) (by omega)
        rw [e, e'] at hk4
        have t := (hs _ (List.getElem_mem hk) _ (List.getElem_mem hk')).2 (by simpa using hk4)
        have t1 := pw_take_last htr hLT hk t x (by rw [show pre.length + u - 1 - pre.length + 1 = u by omega]; exact hx)
        refine pw_drop_first htr hRT hk' t1 y ?_
        rw [show pre.length + L.length + v - (pre.length + L.length) = v by omega]; exact hy
      have c2 : ∀ x ∈ R.take v, ∀ y ∈ L.drop u, T x y := by
        intro x hx y hy
        have hv0 : 0 < v := by
          rcases Nat.eq_zero_or_pos v with h | h
          · subst h; simp at hx
          · exact h
        have hu0 : u < L.length := by
          rcases Nat.lt_or_ge u L.length with h | h
          · exact h
          · rw [List.drop_of_length_le h] at hy; cases hy
        have hk5 := k5 (by omega)
        rw [show M + (pre.length + L.length) - 1 - (pre.length + u) = pre.length + L.length + v - 1 by omega] at hk5
        obtain ⟨hk, e⟩ := ix_app2 (A := pre) (C := L) (D := R ++ post) (k := pre.length + u) (by omega) (by omega)
        obtain ⟨hk', e'⟩ := ix_app3 (A := pre) (B := L) (C := R) (D := post) (k := pre.length + L.length + v - 1) (by omega) (by omega)
        rw [e, e'] at hk5
        have t := (hs _ (List.getElem_mem hk) _ (List.getElem_mem hk')).1 (by simpa using hk5)
        have t1 := pw_take_last htr hRT hk' t x (by rw [show pre.length + L.length + v - 1 - (pre.length + L.length) + 1 = v by omega]; exact hx)
        refine pw_drop_first htr hLT hk t1 y ?_
        rw [show pre.length + u - pre.length = u by omega]; exact hy
      have hPm : ∀ {x}, x ∈ L ∨ x ∈ R → P x := fun h => hP _ (List.mem_append.2 h)
      have hmt : ∀ {S : List Int} {q : Nat} {x : Int}, x ∈ S.take q → x ∈ S := fun h => List.mem_of_mem_take h
      have hmd : ∀ {S : List Int} {q : Nat} {x : Int}, x ∈ S.drop q → x ∈ S := fun h => List.mem_of_mem_drop h
      -- the turn
      have hrot : gSym_J14 (pre ++ (L ++ (R ++ post))) (pre.length : Int) ((pre.length + L.length : Nat) : Int) ((pre.length + L.length + R.length : Nat) : Int) cmp (gSym_R cmp fuel) ((pre.length + u : Nat) : Int) =
          gSym_J15 (pre.length : Int) ((pre.length + L.length : Nat) : Int) ((pre.length + L.length + R.length : Nat) : Int) cmp (gSym_R cmp fuel) ((pre.length + u : Nat) : Int) (pre ++ (L.take u ++ (R.take v ++ (L.drop u ++ (R.drop v ++ post))))) := by
        unfold gSym_J14
        rw [eM, eN, eE]
        have ed : pre ++ (L ++ (R ++ post)) = (pre ++ L.take u) ++ (L.drop u ++ (R.take v ++ (R.drop v ++ post))) := by
          rw [List.append_assoc, ← List.append_assoc (L.take u), hL12, ← List.append_assoc (R.take v), hR12]
        by_cases hcd : u < L.length ∧ 0 < v
        · rw [if_pos (by simp; omega), ed, rot_ok (pre ++ L.take u) (L.drop u) (R.take v) (R.drop v ++ post) _ _ _ (by intro h; rw [← List.length_eq_zero_iff] at h; omega) (by intro h; rw [← List.length_eq_zero_iff] at h; omega) (by simp; omega) (by simp; omega) (by simp; omega) (by rw [← ed]; exact hbb), Option.bind_some]
          simp
        · rw [if_neg (by simp; omega)]
          congr 1
          rcases Nat.lt_or_ge u L.length with h | h
          · have : v = 0 := by omega
            subst this
            rw [ed]; simp
          · rw [ed, List.drop_of_length_le h]; simp
      rw [hrot]
      -- the first half
      have half1 : ∃ X1, X1.Perm (L.take u ++ R.take v) ∧ X1.Pairwise T ∧ gSym_J15 (pre.length : Int) ((pre.length + L.length : Nat) : Int) ((pre.length + L.length + R.length : Nat) : Int) cmp (gSym_R cmp fuel) ((pre.length + u : Nat) : Int) (pre ++ (L.take u ++ (R.take v ++ (L.drop u ++ (R.drop v ++ post))))) =
          gSym_J16 (pre.length : Int) ((pre.length + L.length : Nat) : Int) ((pre.length + L.length + R.length : Nat) : Int) cmp (gSym_R cmp fuel) ((pre.length + u : Nat) : Int) (pre ++ (X1 ++ (L.drop u ++ (R.drop v ++ post)))) := by
        unfold gSym_J15
        rw [eM]
        by_cases hcd : 0 < u ∧ 0 < v
        · obtain ⟨X1, x1, x2, x3⟩ := ih pre (L.take u) (R.take v) (L.drop u ++ (R.drop v ++ post)) (by omega) (by intro h; rw [← List.length_eq_zero_iff] at h; omega) (by intro h; rw [← List.length_eq_zero_iff] at h; omega) hL3.1 hR3.1
            (hs.mono (fun x => hmt) (fun x => hmt)) (fun x hx => by rcases List.mem_append.1 hx with h | h; exact hPm (.inl (hmt h)); exact hPm (.inr (hmt h))) (by simp only [List.length_append, lu, ru, ld, rd]; unfold big; omega)
          refine ⟨X1, x1, x2, ?_⟩
          rw [if_pos (by simp; omega)]
          rw [lu, ru, show pre.length + u + v = M by omega] at x3
          rw [x3, Option.bind_some]
        · refine ⟨L.take u ++ R.take v, List.Perm.refl _, ?_, ?_⟩
          · rcases Nat.eq_zero_or_pos u with h | h
            · subst h; simpa using hR3.1
            · have : v = 0 := by omega
              subst this; simpa using hL3.1
          · rw [if_neg (by simp; omega)]
            simp
      obtain ⟨X1, x1, x2, x3⟩ := half1
      rw [x3]
      have xl : X1.length = u + v := by rw [x1.length_eq, List.length_append, lu, ru]
      have half2 : ∃ X2, X2.Perm (L.drop u ++ R.drop v) ∧ X2.Pairwise T ∧ gSym_J16 (pre.length : Int) ((pre.length + L.length : Nat) : Int) ((pre.length + L.length + R.length : Nat) : Int) cmp (gSym_R cmp fuel) ((pre.length + u : Nat) : Int) (pre ++ (X1 ++ (L.drop u ++ (R.drop v ++ post)))) = some (pre ++ (X1 ++ (X2 ++ post))) := by
        unfold gSym_J16
        rw [eM, eN, eE]
        by_cases hcd : u < L.length ∧ v < R.length
        · obtain ⟨X2, y1, y2, y3⟩ := ih (pre ++ X1) (L.drop u) (R.drop v) post (by omega) (by intro h; rw [← List.length_eq_zero_iff] at h; omega) (by intro h; rw [← List.length_eq_zero_iff] at h; omega) hL3.2.1 hR3.2.1
            (hs.mono (fun x => hmd) (fun x => hmd)) (fun x hx => by rcases List.mem_append.1 hx with h | h; exact hPm (.inl (hmd h)); exact hPm (.inr (hmd h))) (by simp only [List.length_append, xl, ld, rd]; unfold big; omega)
          refine ⟨X2, y1, y2, ?_⟩
          rw [if_pos (by simp; omega)]
          rw [List.length_append, xl, ld, rd, show pre.length + (u + v) = M by omega, show M + (L.length - u) = pre.length + L.length + v by omega, show pre.length + L.length + v + (R.length - v) = pre.length + L.length + R.length by omega, List.append_assoc] at y3
          rw [y3, Option.bind_some]
          simp
        · refine ⟨L.drop u ++ R.drop v, List.Perm.refl _, ?_, ?_⟩
          · rcases Nat.lt_or_ge u L.length with h | h
            · have : R.drop v = [] := List.drop_of_length_le (by omega)
              rw [this]; simpa using hL3.2.1
            · rw [List.drop_of_length_le h]; simpa using hR3.2.1
          · rw [if_neg (by simp; omega)]
            simp
      obtain ⟨X2, y1, y2, y3⟩ := half2
      rw [y3]
      refine ⟨X1 ++ X2, ?_, ?_, by simp⟩
      · refine (x1.append y1).trans ?_
        have : (L.take u ++ R.take v ++ (L.drop u ++ R.drop v)).Perm (L.take u ++ L.drop u ++ (R.take v ++ R.drop v)) := by
          simp only [List.append_assoc]
          refine List.Perm.append_left _ ?_
          simp only [← List.append_assoc]
          exact List.Perm.append_right _ List.perm_append_comm
        rw [hL12, hR12] at this
        exact this
      · refine List.pairwise_append.2 ⟨x2, y2, ?_⟩
        intro a ha b hb
        rcases List.mem_append.1 (x1.mem_iff.1 ha) with h | h <;> rcases List.mem_append.1 (y1.mem_iff.1 hb) with h' | h'
        · exact hL3.2.2 a h b h'
        · exact c1 a h b h'
        · exact c2 a h b h'
        · exact hR3.2.2 a h b h'
    unfold gSym_S
    rw [e1, if_neg (by simp; omega), e2, if_neg (by simp; omega), eM, eN]
    by_cases hgt : M < pre.length + L.length
    · have es : w64 (((M + (pre.length + L.length) : Nat) : Int) - ((pre.length + L.length + R.length : Nat) : Int)) = ((M - R.length : Nat) : Int) := by rw [w64_id (by omega) (by omega)]; omega
      rw [if_pos (by simp; omega), es]
      exact key (M - R.length) M (by omega) (by omega) (by omega) (by omega) (by omega) (by omega) (by omega) (by omega)
    · rw [if_neg (by simp; omega)]
      exact key pre.length (pre.length + L.length) (by omega) (by omega) (by omega) (by omega) (by omega) (by omega) (by omega) (by omega)
inductive Blk (T : Int → Int → Prop) (B : Nat) : List Int → List Int → Prop
  | last {X O : List Int} : X.Perm O → X.Pairwise T → X.length ≤ B → Blk T B X O
  | cons {X O X' O' : List Int} : X.Perm O → X.Pairwise T → X.length = B → Blk T B X' O' → Blk T B (X ++ X') (O ++ O')
def Ord (lt : Int → Int → Bool) (T : Int → Int → Prop) (O : List Int) : Prop := O.Pairwise (fun x y => (lt y x = true → T y x) ∧ (lt y x = false → T x y))
variable {cmp : Int → Int → Option Int} {lt : Int → Int → Bool} {P : Int → Prop} {T : Int → Int → Prop}
theorem Blk.perm {B : Nat} {X O : List Int} (h : Blk T B X O) : X.Perm O := by
  induction h with
  | last h _ _ => exact h
  | cons h _ _ _ ih => exact h.append ih
theorem Blk.first {B : Nat} {X O : List Int} (h : Blk T B X O) (hB : B ≤ X.length) : ∃ X1 O1 X' O', X = X1 ++ X' ∧ O = O1 ++ O' ∧ X1.Perm O1 ∧ X1.Pairwise T ∧ X1.length = B ∧ Blk T B X' O' := by
  cases h with
  | last h1 h2 h3 => exact ⟨X, O, [], [], by simp, by simp, h1, h2, by omega, .last (List.Perm.refl _) List.Pairwise.nil (Nat.zero_le _)⟩
  | cons h1 h2 h3 h4 => exact ⟨_, _, _, _, rfl, rfl, h1, h2, h3, h4⟩
theorem Blk.one {B : Nat} {X O : List Int} (h : Blk T B X O) (hB : X.length ≤ B) : X.Perm O ∧ X.Pairwise T := by
  cases h with
  | last h1 h2 h3 => exact ⟨h1, h2⟩
  | cons h1 h2 h3 h4 =>
    rename_i X O X' O'
    rw [List.length_append] at hB
    obtain rfl : X' = [] := List.eq_nil_of_length_eq_zero (by omega)
    have := h4.perm
    obtain rfl : O' = [] := by simpa using this.symm
    simpa using And.intro h1 h2
theorem Ord.sep {O1 O2 X1 X2 : List Int} (h : Ord lt T (O1 ++ O2)) (h1 : X1.Perm O1) (h2 : X2.Perm O2) : Sep lt T X1 X2 :=
  fun x hx y hy => (List.pairwise_append.1 h).2.2 x (h1.mem_iff.1 hx) y (h2.mem_iff.1 hy)
theorem stb_ins (hc : CmpOk cmp lt P) (htr : ∀ x y z, T x y → T y z → T x z) (n : Nat) : ∀ (m : Nat) (O pre : List Int), O.length = m → n = pre.length + O.length → Ord lt T O → (∀ x ∈ O, P x) → n < 1099511627776 →
    ∃ D a X, loopM (fun s : (List Int) × Int × Int => gStb_L1 (n : Int) cmp s.1 s.2.1 s.2.2) (pre ++ O, (pre.length : Int), ((pre.length + 20 : Nat) : Int)) = some (D, a) ∧ gIns D a (n : Int) cmp = some (pre ++ X) ∧ Blk T 20 X O := by
  intro m
  induction m using Nat.strongRecOn with
  | _ m ih =>
    intro O pre hm hn ho hP hb
    rcases Nat.lt_or_ge O.length 20 with h | h
    · obtain ⟨X, x1, x2, x3⟩ := ins_ok (T := T) pre O [] hc htr ho hP (by simp; unfold big; omega)
      refine ⟨pre ++ O, (pre.length : Int), X, loopM_end ?_, ?_, .last x1 x2 (by rw [x1.length_eq]; omega)⟩
      · show gStb_L1 _ _ _ _ _ = _
        unfold gStb_L1
        rw [if_neg (by simp; omega)]
      · simp only [List.append_nil] at x3
        rw [hn]; exact x3
    · obtain ⟨O1, O2, rfl, h1⟩ : ∃ O1 O2, O = O1 ++ O2 ∧ O1.length = 20 := ⟨O.take 20, O.drop 20, (List.take_append_drop _ _).symm, by rw [List.length_take]; omega⟩
      have ho' := List.pairwise_append.1 ho
      rw [List.length_append] at hm hn
      obtain ⟨X1, x1, x2, x3⟩ := ins_ok (T := T) pre O1 O2 hc htr ho'.1 (fun x hx => hP x (by simp [hx])) (by simp; unfold big; omega)
      have hx1 : X1.length = 20 := by rw [x1.length_eq, h1]
      obtain ⟨D, a, X, y1, y2, y3⟩ := ih O2.length (by omega) O2 (pre ++ X1) rfl (by simp; omega) ho'.2.1 (fun x hx => hP x (by simp [hx])) hb
      refine ⟨D, a, X1 ++ X, ?_, by rw [y2]; simp, .cons x1 x2 hx1 y3⟩
      rw [loopM_next (s' := (pre ++ X1 ++ O2, ((pre ++ X1).length : Int), (((pre ++ X1).length + 20 : Nat) : Int)))]
      · exact y1
      · show gStb_L1 _ _ _ _ _ = _
        unfold gStb_L1
        rw [if_pos (by simp; omega)]
        rw [h1] at x3
        rw [x3, Option.bind_some]
        have w : w64 (((pre.length + 20 : Nat) : Int) + 20) = ((pre.length + 20 + 20 : Nat) : Int) := by rw [w64_id (by omega) (by omega)]; omega
        rw [w]
        simp [hx1]
theorem stb_merge (hc : CmpOk cmp lt P) (htr : ∀ x y z, T x y → T y z → T x z) (n B : Nat) (hB : 0 < B) (hBn : B < n) : ∀ (m : Nat) (X O pre : List Int), X.length = m → n = pre.length + X.length → Blk T B X O → Ord lt T O → (∀ x ∈ O, P x) → n < 1099511627776 →
    ∃ D a X', loopM (fun s : (List Int) × Int × Int => gStb_L3 (n : Int) cmp (B : Int) s.1 s.2.1 s.2.2) (pre ++ X, (pre.length : Int), ((pre.length + 2 * B : Nat) : Int)) = some (D, a) ∧ gStb_J4 (n : Int) cmp (B : Int) D a = some (.inl (pre ++ X', ((2 * B : Nat) : Int))) ∧ Blk T (2 * B) X' O := by
  intro m
  induction m using Nat.strongRecOn with
  | _ m ih =>
    intro X O pre hm hn hb ho hP hbb
    have w2 : w64 ((B : Int) * 2) = ((2 * B : Nat) : Int) := by rw [w64_id (by omega) (by omega)]; omega
    rcases Nat.lt_or_ge X.length (2 * B) with h | h
    · have hend : loopM (fun s : (List Int) × Int × Int => gStb_L3 (n : Int) cmp (B : Int) s.1 s.2.1 s.2.2) (pre ++ X, (pre.length : Int), ((pre.length + 2 * B : Nat) : Int)) = some (pre ++ X, (pre.length : Int)) := by
        refine loopM_end ?_
        show gStb_L3 _ _ _ _ _ _ = _
        unfold gStb_L3
        rw [if_neg (by simp; omega)]
      have wB : w64 ((pre.length : Int) + (B : Int)) = ((pre.length + B : Nat) : Int) := by rw [w64_id (by omega) (by omega)]; omega
      rcases Nat.lt_or_ge B X.length with h2 | h2
      · obtain ⟨X1, O1, X2, O2, rfl, rfl, p1, p2, p3, p4⟩ := hb.first (by omega)
        rw [List.length_append] at h h2 hn
        obtain ⟨q1, q2⟩ := p4.one (by omega)
        obtain ⟨Y, y1, y2, y3⟩ := sym_ok (T := T) hc htr recFuel pre X1 X2 [] (by unfold recFuel; omega) (by intro e; subst e; simp at p3; omega) (by intro e; subst e; simp at h2; omega) p2 q2 (ho.sep p1 q1)
          (fun x hx => hP x (by rcases List.mem_append.1 hx with h | h; exact List.mem_append_left _ (p1.mem_iff.1 h); exact List.mem_append_right _ (q1.mem_iff.1 h))) (by simp; unfold big; omega)
        refine ⟨_, _, Y, hend, ?_, .last (y1.trans (p1.append q1)) y2 (by rw [y1.length_eq, List.length_append]; omega)⟩
        unfold gStb_J4
        rw [wB, if_pos (by simp; omega)]
        unfold gSym
        simp only [List.append_nil] at y3
        rw [p3] at y3
        rw [show pre.length + B + X2.length = n by omega] at y3
        rw [y3, Option.bind_some]
        unfold gStb_J5
        rw [w2]
      · obtain ⟨q1, q2⟩ := hb.one h2
        refine ⟨_, _, X, hend, ?_, .last q1 q2 (by omega)⟩
        unfold gStb_J4
        rw [wB, if_neg (by simp; omega)]
        unfold gStb_J5
        rw [w2]
    · obtain ⟨X1, O1, X2, O2, rfl, rfl, p1, p2, p3, p4⟩ := hb.first (by omega)
      rw [List.length_append] at h hn hm
      obtain ⟨X3, O3, X4, O4, rfl, rfl, r1, r2, r3, r4⟩ := p4.first (by omega)
      rw [List.length_append] at h hn hm
      have ho' : Ord lt T ((O1 ++ O3) ++ O4) := by simpa using ho
      have ho2 := List.pairwise_append.1 ho'
      obtain ⟨Y, y1, y2, y3⟩ := sym_ok (T := T) hc htr recFuel pre X1 X3 X4 (by unfold recFuel; omega) (by intro e; subst e; simp at p3; omega) (by intro e; subst e; simp at r3; omega) p2 r2 (Ord.sep ho2.1 p1 r1)
        (fun x hx => hP x (by rcases List.mem_append.1 hx with h | h; exact List.mem_append_left _ (p1.mem_iff.1 h); exact List.mem_append_right _ (List.mem_append_left _ (r1.mem_iff.1 h)))) (by simp; unfold big; omega)
      have yl : Y.length = 2 * B := by rw [y1.length_eq, List.length_append]; omega
      obtain ⟨D, a, X', z1, z2, z3⟩ := ih X4.length (by omega) X4 O4 (pre ++ Y) rfl (by simp; omega) r4 ho2.2.1 (fun x hx => hP x (by simp [hx])) hbb
      refine ⟨D, a, Y ++ X', ?_, by rw [z2]; simp, by
        rw [show O1 ++ (O3 ++ O4) = (O1 ++ O3) ++ O4 by simp]
        exact .cons (y1.trans (p1.append r1)) y2 yl z3⟩
      rw [loopM_next (s' := (pre ++ Y ++ X4, ((pre ++ Y).length : Int), (((pre ++ Y).length + 2 * B : Nat) : Int)))]
      · exact z1
      · show gStb_L3 _ _ _ _ _ _ = _
        unfold gStb_L3
        have wB : w64 ((pre.length : Int) + (B : Int)) = ((pre.length + B : Nat) : Int) := by rw [w64_id (by omega) (by omega)]; omega
        have wC : w64 (((pre.length + 2 * B : Nat) : Int) + w64 (2 * (B : Int))) = ((pre.length + 2 * B + 2 * B : Nat) : Int) := by rw [w64_id (n := 2 * (B : Int)) (by omega) (by omega), w64_id (by omega) (by omega)]; omega
        rw [if_pos (by simp; omega), wB, wC]
        unfold gSym
        rw [p3, r3, show pre.length + B + B = pre.length + 2 * B by omega] at y3
        rw [show pre ++ (X1 ++ (X3 ++ X4)) = pre ++ (X1 ++ (X3 ++ X4)) from rfl, y3, Option.bind_some]
        simp [yl]
theorem stb_up (hc : CmpOk cmp lt P) (htr : ∀ x y z, T x y → T y z → T x z) (n : Nat) (hbb : n < 1099511627776) (O : List Int) (ho : Ord lt T O) (hP : ∀ x ∈ O, P x) : ∀ (m B : Nat) (X : List Int), n - B = m → 0 < B → n = X.length → Blk T B X O →
    ∃ X', loopM (fun s : (List Int) × Int => gStb_L2 (n : Int) cmp s.1 s.2) (X, (B : Int)) = some X' ∧ X'.Perm O ∧ X'.Pairwise T := by
  intro m
  induction m using Nat.strongRecOn with
  | _ m ih =>
    intro B X hm hB hn hb
    rcases Nat.lt_or_ge B n with h | h
    · obtain ⟨D, a, X', d1, d2, d3⟩ := stb_merge hc htr n B hB h X.length X O [] rfl (by simpa using hn) hb ho hP hbb
      have hl : X'.length = n := by rw [d3.perm.length_eq, ← hb.perm.length_eq, hn]
      obtain ⟨X'', e1, e2⟩ := ih (n - 2 * B) (by omega) (2 * B) X' rfl (by omega) hl.symm d3
      refine ⟨X'', ?_, e2⟩
      rw [loopM_next (s' := (X', ((2 * B : Nat) : Int)))]
      · exact e1
      · show gStb_L2 _ _ _ _ = _
        unfold gStb_L2
        have w2 : w64 (2 * (B : Int)) = ((([] : List Int).length + 2 * B : Nat) : Int) := by rw [w64_id (by omega) (by omega)]; simp
        rw [if_pos (by simp; omega), w2]
        simp only [List.nil_append] at d1 d2
        rw [show ((([] : List Int).length : Nat) : Int) = (0 : Int) from rfl] at d1
        rw [d1]
        exact d2
    · obtain ⟨q1, q2⟩ := hb.one (by omega)
      refine ⟨X, loopM_end ?_, q1, q2⟩
      show gStb_L2 _ _ _ _ = _
      unfold gStb_L2
      rw [if_neg (by simp; omega)]
theorem gSrt_ok (hc : CmpOk cmp lt P) (htr : ∀ x y z, T x y → T y z → T x z) (O : List Int) (ho : Ord lt T O) (hP : ∀ x ∈ O, P x) (hb : O.length < 1099511627776) : ∃ X, gSrt O cmp = some X ∧ X.Perm O ∧ X.Pairwise T := by
  obtain ⟨D, a, X, x1, x2, x3⟩ := stb_ins (T := T) hc htr O.length O.length O [] rfl (by simp) ho hP hb
  simp only [List.nil_append] at x1 x2
  obtain ⟨X', y1, y2⟩ := stb_up hc htr O.length hb O ho hP _ 20 X rfl (by omega) x3.perm.length_eq.symm x3
  refine ⟨X', ?_, y2⟩
  unfold gSrt gStb
  rw [show ((([] : List Int).length : Nat) : Int) = (0 : Int) from rfl, show ((([] : List Int).length + 20 : Nat) : Int) = (20 : Int) from rfl] at x1
  rw [x1]
  show ((gStb_J1 _ _ D a)).bind _ = _
  unfold gStb_J1
  rw [x2, Option.bind_some]
  rw [show ((20 : Nat) : Int) = (20 : Int) from rfl] at y1
  rw [y1]
  rfl
end Go.Pg
