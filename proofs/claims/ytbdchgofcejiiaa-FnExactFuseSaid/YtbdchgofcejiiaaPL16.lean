import Derived.Test.YtbdchgofcejiiaaPL15
set_option linter.unusedVariables false
set_option linter.unusedSimpArgs false
namespace Go.Proofs.Ytbdchgofcejiiaa
open Go Go.Pg
structure NI (l : Nest) : Prop where
  ker : ∀ k ∈ l.Kernels, KI l.Sizes k
  len : l.Kernels.length ≤ 400
  outs : l.Outs.length ≤ 1048576
def cut (ks : List Kernel) (p r : Nat) (K : Kernel) : List Kernel := (ks.set r K).take p ++ (ks.set r K).drop (p + 1)
def newL (l : Nest) (p r : Nat) (K : Kernel) : Nest := ⟨l.Sizes, l.Ins, l.Fixed, cut l.Kernels p r K, l.Outs⟩
theorem NI.new {l : Nest} (h : NI l) {p r : Nat} {K : Kernel} (hp : p < l.Kernels.length) (hK : KI l.Sizes K) : NI (newL l p r K) ∧ (newL l p r K).Kernels.length + 1 = l.Kernels.length := by
  have hl : (newL l p r K).Kernels.length + 1 = l.Kernels.length := by
    show (cut l.Kernels p r K).length + 1 = _
    unfold cut
    simp
    omega
  refine ⟨⟨fun k hk => ?_, by have := h.len; omega, h.outs⟩, hl⟩
  have hk : k ∈ (l.Kernels.set r K).take p ++ (l.Kernels.set r K).drop (p + 1) := hk
  have : k ∈ l.Kernels.set r K := by
    rcases List.mem_append.1 hk with h | h
    · exact List.mem_of_mem_take h
    · exact List.mem_of_mem_drop h
  rcases List.mem_or_eq_of_mem_set this with h' | h'
  · exact h.ker k h'
  · subst h'; exact hK
theorem try_L1 (l : Nest) (p r : Nat) (hp : p < l.Kernels.length) (hr : r < l.Kernels.length) (h : NI l) :
    loopM (fun s : (List Int) × Int => spec_l11Try_L1 l p r (usesF (ix l.Kernels (p : Int)).Store.Buffer (ix l.Kernels (r : Int)).Loads 0) s.1 s.2) ([], 0) =
      some (match allP (ix l.Kernels (p : Int)) (ix l.Kernels (r : Int)) (ix l.Kernels (r : Int)).Loads none with | none => .inl (l, false) | some cur => .inr (cur.getD [])) := by
  have hP := h.ker _ (ix_mem hp)
  have hC := h.ker _ (ix_mem hr)
  have hpl := hP.loops
  have hcl := hC.loops
  have hcl2 := hC.loads
  rw [loop_goI (S := List Int) (usesF (ix l.Kernels (p : Int)).Store.Buffer (ix l.Kernels (r : Int)).Loads 0) (fun _ s => s.length ≤ 1048576) (fun s : (List Int) × Int => spec_l11Try_L1 l p r (usesF (ix l.Kernels (p : Int)).Store.Buffer (ix l.Kernels (r : Int)).Loads 0) s.1 s.2) (fun s i => (s, i))
    (stU l (ix l.Kernels (p : Int)) (ix l.Kernels (r : Int))) (fun s => .inr s) ?_ ?_ ?_ [] (by simp)]
  · rw [goU l _ _ _ 0 0 [] (fun i hi => by rw [Nat.zero_add, ix_at hi]), if_pos rfl]
    cases allP (ix l.Kernels (p : Int)) (ix l.Kernels (r : Int)) (ix l.Kernels (r : Int)).Loads none <;> rfl
  · intro s k hI hk
    show spec_l11Try_L1 l p r (usesF (ix l.Kernels (p : Int)).Store.Buffer (ix l.Kernels (r : Int)).Loads 0) s (k : Int) = _
    have hu := usesF_mem (ix_mem hk)
    have hul := @usesF_len (ix l.Kernels (p : Int)).Store.Buffer (ix l.Kernels (r : Int)).Loads 0
    unfold spec_l11Try_L1 stU
    rw [if_pos (lt_ hk), if_pos (inr_ hk), w64k (by unfold big; omega)]
    generalize ix (usesF (ix l.Kernels (p : Int)).Store.Buffer (ix l.Kernels (r : Int)).Loads 0) (k : Int) = u at *
    have hur : 0 ≤ u ∧ u < ((ix l.Kernels (r : Int)).Loads.length : Int) := by omega
    obtain ⟨x, h1, h2⟩ := spec_part (ix l.Kernels (p : Int)) (ix l.Kernels (r : Int)) (ix (ix l.Kernels (r : Int)).Loads u) ⟨by omega, by omega, hC.steps _ (ix_mem' hur.1 hur.2), hP.store⟩
    rw [if_pos hur, h1, bind_some']
    cases hPR : PR (ix l.Kernels (p : Int)) (ix l.Kernels (r : Int)) (ix (ix l.Kernels (r : Int)).Loads u) with
    | none => simp [gc_f, bind_some']
    | some o =>
      have hx := h2 o hPR
      subst hx
      have hxl := (PR_ok hPR).1
      simp only [Option.isSome_some, Bool.not_true, Bool.not_false, Bool.true_and, Bool.false_or]
      by_cases hk0 : k = 0
      · have e : decide ((k : Int) > 0) = false := decide_eq_false (by omega)
        rw [e, gc_f, bind_some']
        simp [hk0]
      · have e : decide ((k : Int) > 0) = true := decide_eq_true (by omega)
        rw [e, gc_t, same_eq _ _ (by unfold big; omega), bind_some']
        by_cases hxs : x = s
        · simp [hk0, hxs]
        · simp [hk0, hxs]
  · intro s k s' hI hk hs
    unfold stU at hs
    cases hPR : PR (ix l.Kernels (p : Int)) (ix l.Kernels (r : Int)) (ix (ix l.Kernels (r : Int)).Loads (ix (usesF (ix l.Kernels (p : Int)).Store.Buffer (ix l.Kernels (r : Int)).Loads 0) (k : Int))) with
    | none => rw [hPR] at hs; cases hs
    | some o =>
      rw [hPR] at hs
      simp only at hs
      split at hs
      · injection hs with hs; subst hs
        have := (PR_ok hPR).1
        omega
      · cases hs
  · intro s _
    show spec_l11Try_L1 l p r (usesF (ix l.Kernels (p : Int)).Store.Buffer (ix l.Kernels (r : Int)).Loads 0) s _ = _
    unfold spec_l11Try_L1; simp only [nlt_, Bool.false_eq_true, if_false]
theorem try_L2 (l : Nest) (p r : Nat) (K : Kernel) (hp : p < l.Kernels.length) (hpr : p < r) (hr : r < l.Kernels.length) (hl : l.Kernels.length ≤ 400) :
    loopM (fun s : (List Kernel) × Int => spec_l11Try_L2 l p r K s.1 s.2) ([], 0) = some (cut l.Kernels p r K) := by
  rw [loop_goI (S := List Kernel) l.Kernels (fun k s => s.length ≤ k) (fun s : (List Kernel) × Int => spec_l11Try_L2 l p r K s.1 s.2) (fun s i => (s, i)) (fun s j k => .inl (if j = p then s else if j = r then s ++ [K] else s ++ [k])) (fun s => s) ?_ ?_ ?_ [] (by simp)]
  · congr 1
    have key : ∀ (m j : Nat) (s : List Kernel), j + m = l.Kernels.length → goI (R := List Kernel) (fun s j k => .inl (if j = p then s else if j = r then s ++ [K] else s ++ [k])) (fun s => s) (l.Kernels.drop j) j s = s ++ (if j ≤ p then ((l.Kernels.set r K).take p).drop j ++ (l.Kernels.set r K).drop (p + 1) else (l.Kernels.set r K).drop j) := by
      intro m
      induction m with
      | zero =>
        intro j s hj
        have hj : j = l.Kernels.length := by omega
        subst hj
        rw [List.drop_length, if_neg (by omega), List.drop_eq_nil_of_le (by simp)]
        simp [goI]
      | succ m ih =>
        intro j s hj
        have hlt : j < l.Kernels.length := by omega
        rw [List.drop_eq_getElem_cons hlt]
        unfold goI
        simp only []
        rw [ih (j + 1) _ (by omega)]
        have hlt2 : j < (l.Kernels.set r K).length := by simpa using hlt
        have hd : (l.Kernels.set r K).drop j = (l.Kernels.set r K)[j] :: (l.Kernels.set r K).drop (j + 1) := List.drop_eq_getElem_cons hlt2
        have hg : (l.Kernels.set r K)[j] = if j = r then K else l.Kernels[j] := by
          rw [List.getElem_set]
          by_cases e : r = j
          · rw [if_pos e, if_pos e.symm]
          · rw [if_neg e, if_neg (fun q => e q.symm)]
        by_cases h1 : j = p
        · subst h1
          rw [if_pos rfl, if_neg (by omega), if_pos (Nat.le_refl _)]
          have en : ((l.Kernels.set r K).take j).drop j = [] := List.drop_eq_nil_of_le (by simp; omega)
          rw [en]
          simp
        · rw [if_neg h1]
          have hs : (if j = r then s ++ [K] else s ++ [l.Kernels[j]]) = s ++ [(l.Kernels.set r K)[j]] := by rw [hg]; split <;> rfl
          rw [hs]
          by_cases h2 : j ≤ p
          · rw [if_pos (by omega), if_pos h2]
            have hlt3 : j < ((l.Kernels.set r K).take p).length := by simp; omega
            rw [List.drop_eq_getElem_cons hlt3, List.getElem_take]
            simp
          · rw [if_neg (by omega), if_neg h2, hd]
            simp
    have := key l.Kernels.length 0 [] (by omega)
    rw [List.drop_zero, if_pos (Nat.zero_le _)] at this
    rw [this]; simp [cut]
  · intro s k hI hk
    show spec_l11Try_L2 l p r K s (k : Int) = _
    have l2 : ∀ v : Kernel, s.length + ([v] : List Kernel).length ≤ 1172812402961 := fun v => by simp; omega
    unfold spec_l11Try_L2 spec_l11Try_J3
    rw [if_pos (lt_ hk), if_pos (inr_ hk), w64k (by unfold big; omega)]
    simp only [if_pos (l2 _)]
    by_cases h1 : k = p
    · simp [h1]
    · have e1 : ((k : Int) == (p : Int)) = false := beq_eq_false_iff_ne.2 (by omega)
      by_cases h2 : k = r
      · have e2 : ((k : Int) == (r : Int)) = true := by simp [h2]
        rw [e1, e2]
        simp only [Bool.false_eq_true, if_false, if_true, if_neg h1, if_pos h2]
      · have e2 : ((k : Int) == (r : Int)) = false := beq_eq_false_iff_ne.2 (by omega)
        rw [e1, e2]
        simp only [Bool.false_eq_true, if_false, if_neg h1, if_neg h2]
  · intro s k s' hI hk hs
    injection hs with hs; subst hs
    split
    · omega
    · split <;> simp <;> omega
  · intro s _
    show spec_l11Try_L2 l p r K s (l.Kernels.length : Int) = _
    unfold spec_l11Try_L2; simp only [nlt_, Bool.false_eq_true, if_false]
theorem delete_eq (l : Nest) (p r : Nat) (K : Kernel) (hp : p < l.Kernels.length) (hl : l.Kernels.length ≤ 400) : slices_Delete_impl_Kernel_impl_Kernel (l.Kernels.set r K) (p : Int) (w64 ((p : Int) + 1)) = some (cut l.Kernels p r K) := by
  unfold slices_Delete_impl_Kernel_impl_Kernel cut
  rw [w64k (by unfold big; omega), if_pos ⟨by omega, by omega, by rw [List.length_set]; omega⟩, Int.toNat_natCast, Int.toNat_natCast]
/-- One kernel is tried: both say the same. -/
theorem step_p (l : Nest) (p : Nat) (hp : p < l.Kernels.length) (h : NI l) :
    (spec_l11Try l p = some (l, false) ∧ impl_fuseOnce_L1 l p = some (.inl ((p + 1 : Nat) : Int))) ∨
    (∃ l', spec_l11Try l p = some (l', true) ∧ impl_fuseOnce_L1 l p = some (.inr (.inl (true, l'))) ∧ NI l' ∧ l'.Kernels.length + 1 = l.Kernels.length ∧ l'.Sizes = l.Sizes ∧ l'.Ins = l.Ins ∧ l'.Fixed = l.Fixed ∧ l'.Outs = l.Outs) := by
  have hl := h.len
  have hP := h.ker _ (ix_mem hp)
  obtain ⟨st, e1, e2⟩ := whole_taker l p hp (by omega) h.outs (fun k hk => (h.ker k hk).kok)
  have e3 := reader_eq l.Kernels (ix l.Kernels (p : Int)).Store.Buffer (by omega) (fun k hk => (h.ker k hk).sm.loads)
  have etk := tk_eq (ix l.Kernels (p : Int)) p l.Kernels 0 (-1) (.inl rfl)
  unfold spec_l11Try impl_fuseOnce_L1 impl_fuseOnce_J2
  rw [if_pos (inr_ hp), e3, bind_some', e1, if_pos (lt_ hp), if_pos (inr_ hp), e2, bind_some', w64k (by unfold big; omega)]
  generalize hr : rdrL (ix l.Kernels (p : Int)).Store.Buffer l.Kernels 0 (-1) = r at *
  generalize tkL (ix l.Kernels (p : Int)) p l.Kernels 0 (-1) = T at *
  cases hpre : preB l (ix l.Kernels (p : Int)) st
  case true =>
    refine .inl ⟨?_, ?_⟩
    · simp only [Bool.not_true, Bool.false_and]
      cases hd : decide (r ≤ (p : Int)) <;> simp [gc_t, gc_f, bind_some']
    · simp
  case false =>
    simp only [Bool.not_false, Bool.true_and, Bool.false_eq_true, if_false]
    by_cases hw : whL (ix l.Kernels (p : Int)) p l.Kernels 0 = true ∧ (p : Int) ≤ r
    · obtain ⟨hw1, hw2⟩ := hw
      obtain ⟨j, hj, hjl, hjb⟩ := rdr_at _ _ _ _ r hr (by omega) (by omega)
      rw [Nat.zero_add] at hj
      have hjp : j ≠ p := by
        rintro rfl
        have := wh_at _ _ _ _ hw1 j hjl
        unfold badK at this
        rw [← ix_at hjl] at hjb
        rw [Nat.zero_add, ← ix_at hjl] at this
        simp [hjb] at this
      have hpj : p < j := by omega
      subst hj
      have d1 : decide ((j : Int) ≤ (p : Int)) = false := decide_eq_false (by omega)
      have d2 : decide ((j : Int) < 0) = false := decide_eq_false (by omega)
      have hC := h.ker _ (ix_mem hjl)
      rw [if_pos ⟨hw1, hw2⟩] at etk
      subst etk
      rw [hw1, d1, d2]
      simp only [Bool.not_false, Bool.not_true, gc_t, bind_some', Bool.or_self, Bool.false_eq_true, if_false]
      rw [if_pos (inr_ hjl), if_pos (inr_ hjl), uses_eq _ _ hC.sm.loads, bind_some', try_L1 l p j hp hjl h, bind_some', fused_eq _ _ hP hC, bind_some']
      cases hA : allP (ix l.Kernels (p : Int)) (ix l.Kernels (j : Int)) (ix l.Kernels (j : Int)).Loads none with
      | none => exact .inl ⟨rfl, rfl⟩
      | some cur =>
        have hwo := allP_ok hA (fun w h => by cases h)
        have hwc : (cur.getD []).length ≤ (ix l.Kernels (p : Int)).Loops.length ∧ ∀ x ∈ cur.getD [], 0 ≤ x ∧ x < ((ix l.Kernels (j : Int)).Loops.length : Int) := by
          cases cur with
          | none => simp
          | some w => have := hwo w rfl; exact ⟨by simp only [Option.getD_some]; omega, this.2⟩
        have hcode := (fuse_code (ix l.Kernels (p : Int)) (ix l.Kernels (j : Int)) (cur.getD []) hP hC).2
        have hp1 := hP.code1
        simp only [spec_l11Try_J1]
        rw [into_eq _ _ _ hP hC hwc.1 hwc.2, bind_some']
        have hKl : (fuseK (ix l.Kernels (p : Int)) (ix l.Kernels (j : Int)) (cur.getD [])).Code.length = (codeC (ix l.Kernels (p : Int)) (ix l.Kernels (j : Int)) (keepL (ix l.Kernels (p : Int)) (ix l.Kernels (j : Int))).length).1.length := rfl
        generalize hK : fuseK (ix l.Kernels (p : Int)) (ix l.Kernels (j : Int)) (cur.getD []) = K at *
        have e0 : ((K.Code.length : Int) == 0) = false := beq_eq_false_iff_ne.2 (by omega)
        have ek : ((decide ((K.Loads.length : Int) > 30)) || (decide ((K.Code.length : Int) > 60))) = !(okK K) := by
          unfold okK
          by_cases a1 : K.Loads.length ≤ 30 <;> by_cases a2 : K.Code.length ≤ 60
          · have b1 : ¬ ((K.Loads.length : Int) > 30) := by omega
            have b2 : ¬ ((K.Code.length : Int) > 60) := by omega
            simp [a1, a2, b1, b2]
          · have b2 : (K.Code.length : Int) > 60 := by omega
            simp [a2, b2]
          · have b1 : (K.Loads.length : Int) > 30 := by omega
            simp [a1, b1]
          · have b1 : (K.Loads.length : Int) > 30 := by omega
            simp [a1, b1]
        rw [ek, e0, Bool.or_false]
        cases hok : okK K
        · exact .inl ⟨by simp, by simp⟩
        · right
          have hKI : KI l.Sizes K := by rw [← hK]; exact fuse_ki _ _ _ hP hC (by rw [hK]; exact hok)
          obtain ⟨n1, n2⟩ := h.new (r := j) hp hKI
          refine ⟨newL l p j K, ?_, ?_, n1, n2, rfl, rfl, rfl, rfl⟩
          · simp only [Bool.not_true, Bool.false_eq_true, if_false]
            rw [try_L2 l p j K hp hpj hjl hl, bind_some']
            rfl
          · simp only [if_true]
            rw [Int.toNat_natCast, ← w64k (show p < big by unfold big; omega), delete_eq l p j K hp hl, bind_some']
            rfl
    · rw [if_neg hw] at etk
      subst etk
      refine .inl ⟨?_, ?_⟩
      · cases hd : decide (r ≤ (p : Int))
        · have hrp : ¬ r ≤ (p : Int) := by simpa using hd
          have : whL (ix l.Kernels (p : Int)) p l.Kernels 0 = false := by
            cases q : whL (ix l.Kernels (p : Int)) p l.Kernels 0
            · rfl
            · exact absurd ⟨q, by omega⟩ hw
          simp [this, gc_t, bind_some']
        · simp [gc_f, bind_some']
      · simp
end Go.Proofs.Ytbdchgofcejiiaa
