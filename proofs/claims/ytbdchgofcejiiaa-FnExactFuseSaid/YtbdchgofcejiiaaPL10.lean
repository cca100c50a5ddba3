import Derived.Test.YtbdchgofcejiiaaPL9
set_option linter.unusedVariables false
set_option linter.unusedSimpArgs false
namespace Go.Proofs.Ytbdchgofcejiiaa
open Go Go.Pg
theorem steps_tot (xs : List Int) (h : xs.length ≤ 1048576) : ∃ r, impl_steps xs = some r := by
  unfold impl_steps
  rw [if_pos (by omega)]
  have hl : (List.replicate (xs.length : Int).toNat (0 : Int)).length = xs.length := by simp
  obtain ⟨r, e, _⟩ := loopM_rel (f := fun s : (List Int) × Int × Int => impl_steps_L1 xs s.1 s.2.1 s.2.2) (Post := fun _ => True) (fun s => ∃ j : Nat, j ≤ xs.length ∧ s.2.2 = (j : Int) - 1) (fun s => (s.2.2 + 1).toNat)
    (s := ((List.replicate (xs.length : Int).toNat (0 : Int)), (1 : Int), (w64 ((xs.length : Int) - (1 : Int))))) ⟨xs.length, Nat.le_refl _, by show w64 _ = _; rw [w64_id (by omega) (by omega)]⟩ (by
      rintro ⟨x, n, i⟩ ⟨j, hj, hi⟩
      replace hi : i = (j : Int) - 1 := hi
      subst hi
      show (∃ s', impl_steps_L1 xs x n ((j : Int) - 1) = some (.inl s') ∧ _) ∨ (∃ r, impl_steps_L1 xs x n ((j : Int) - 1) = some (.inr r) ∧ True)
      unfold impl_steps_L1 impl_steps_J2
      cases j with
      | zero => exact .inr ⟨x, by simp, trivial⟩
      | succ j =>
        have e : ((j + 1 : Nat) : Int) - 1 = (j : Int) := by omega
        rw [e]
        have hw : w64 ((j : Int) - 1) = (j : Int) - 1 := w64_id (by omega) (by omega)
        have hjl : j < xs.length := by omega
        rw [if_pos (decide_eq_true (by omega)), if_pos (inr_ hjl), hw]
        by_cases hc : (decide ((ix xs (j : Int)) > 1)) = true
        · rw [if_pos hc, if_pos (rep_ hjl), if_pos (inr_ hjl)]
          refine .inl ⟨(_, _, (j : Int) - 1), rfl, ⟨j, by omega, rfl⟩, ?_⟩
          show ((j : Int) - 1 + 1).toNat < ((j : Int) + 1).toNat
          omega
        · rw [if_neg hc, if_pos (inr_ hjl)]
          refine .inl ⟨(_, _, (j : Int) - 1), rfl, ⟨j, by omega, rfl⟩, ?_⟩
          show ((j : Int) - 1 + 1).toNat < ((j : Int) + 1).toNat
          omega)
  exact ⟨r, by rw [e]; rfl⟩
def c1B (P : Kernel) : Bool := P.Sum || (P.Store.Offset != (0 : Int))
def preB (l : Nest) (P : Kernel) (r : List Int) : Bool := ((c1B P || !(decide (P.Store.Steps = r))) || ((prodL P.Loops 1).getD 0 != ix l.Sizes P.Store.Buffer)) || decide (P.Store.Buffer ∈ l.Outs)
theorem wholeL (l : Nest) (p : Nat) (hp : p < l.Kernels.length) (hl : l.Kernels.length ≤ 1048576) (hk : (ix l.Kernels (p : Int)).Loads.length ≤ 1048576) :
    loopM (fun s : Int => spec_l11Whole_L1 l p s) 0 = some (if whL (ix l.Kernels (p : Int)) p l.Kernels 0 then .inr () else .inl false) := by
  rw [loop_goI (S := Unit) l.Kernels (fun _ _ => True) (fun s : Int => spec_l11Whole_L1 l p s) (fun _ i => i) (fun _ j k => if badK (ix l.Kernels (p : Int)) p j k then .inr (.inl false) else .inl ()) (fun _ => .inr ()) ?_ (fun _ _ _ _ _ _ => trivial) ?_ () trivial]
  · have key : ∀ (xs : List Kernel) (j : Nat), goI (S := Unit) (R := Bool ⊕ Unit) (fun _ j k => if badK (ix l.Kernels (p : Int)) p j k then .inr (.inl false) else .inl ()) (fun _ => .inr ()) xs j () = (if whL (ix l.Kernels (p : Int)) p xs j then .inr () else .inl false) := by
      intro xs
      induction xs with
      | nil => intro j; rfl
      | cons k ks ih =>
        intro j
        unfold goI whL
        cases hb : badK (ix l.Kernels (p : Int)) p j k
        · simp only [Bool.false_eq_true, if_false, Bool.not_false, Bool.true_and]; exact ih _
        · simp
    rw [key]
  · intro s j _ hj
    unfold spec_l11Whole_L1 badK
    rw [if_pos (lt_ hj), if_pos (fun _ => inr_ hj), if_pos (fun _ _ => inr_ hj), w64k (by unfold big; omega)]
    generalize hP : ix l.Kernels (p : Int) = P at *
    generalize ix l.Kernels (j : Int) = K
    have e1 : ((j : Int) != (p : Int)) = decide (j ≠ p) := by
      by_cases q : j = p
      · simp [q]
      · have : ¬ (j : Int) = (p : Int) := by omega
        simp [q, this]
    have e2 : decide ((j : Int) ≥ (p : Int)) = decide (p ≤ j) := decide_eq_decide.2 (by omega)
    rw [e1, e2]
    cases hA : (decide (j ≠ p) && K.Store.Buffer == P.Store.Buffer)
    · cases hB : decide (p ≤ j)
      · simp [gc_f, bind_some']
      · simp only [Bool.not_false, Bool.and_self, gc_t, uses_eq _ _ hk, bind_some', Bool.false_or, Bool.true_and]
        have hu := usesF_nil K.Store.Buffer P.Loads 0
        cases hh : hasB P K.Store.Buffer
        · have := hu.2 hh
          have : decide (((usesF K.Store.Buffer P.Loads 0).length : Int) > 0) = false := decide_eq_false (by omega)
          rw [this]; rfl
        · have : ¬ (usesF K.Store.Buffer P.Loads 0).length = 0 := fun e => by have := hu.1 e; unfold hasB at hh; rw [this] at hh; cases hh
          have : decide (((usesF K.Store.Buffer P.Loads 0).length : Int) > 0) = true := decide_eq_true (by omega)
          rw [this]; rfl
    · simp [gc_f, bind_some']
  · intro s _
    unfold spec_l11Whole_L1; simp only [nlt_, Bool.false_eq_true, if_false]
theorem takerL (l : Nest) (p : Nat) (hp : p < l.Kernels.length) (hl : l.Kernels.length ≤ 1048576) (hk : ∀ k ∈ l.Kernels, k.Loads.length ≤ 1048576) :
    (loopM (fun s : Int × Int => impl_Nest_taker_L1 l p s.1 s.2) ((-1 : Int), (0 : Int))).bind (fun e => match e with | .inl e => some e | .inr e => impl_Nest_taker_J3 e) = some (tkL (ix l.Kernels (p : Int)) p l.Kernels 0 (-1)) := by
  rw [loop_goI (S := Int) l.Kernels (fun _ _ => True) (fun s : Int × Int => impl_Nest_taker_L1 l p s.1 s.2) (fun s i => (s, i))
    (fun c j k => if badK (ix l.Kernels (p : Int)) p j k then .inr (.inl (-1)) else if hasB k (ix l.Kernels (p : Int)).Store.Buffer then (if c ≥ 0 ∨ j < p then .inr (.inl (-1)) else .inl (j : Int)) else .inl c) (fun c => .inr c) ?_ (fun _ _ _ _ _ _ => trivial) ?_ (-1) trivial]
  · rw [bind_some']
    have key : ∀ (xs : List Kernel) (j : Nat) (c : Int), (match goI (R := Int ⊕ Int) (fun c j k => if badK (ix l.Kernels (p : Int)) p j k then .inr (.inl (-1)) else if hasB k (ix l.Kernels (p : Int)).Store.Buffer then (if c ≥ 0 ∨ j < p then .inr (.inl (-1)) else .inl (j : Int)) else .inl c) (fun c => .inr c) xs j c with | .inl e => some e | .inr e => impl_Nest_taker_J3 e) = some (tkL (ix l.Kernels (p : Int)) p xs j c) := by
      intro xs
      induction xs with
      | nil => intro j c; rfl
      | cons k ks ih =>
        intro j c
        unfold goI tkL
        cases hb : badK (ix l.Kernels (p : Int)) p j k
        · simp only [Bool.false_eq_true, if_false]
          cases hh : hasB k (ix l.Kernels (p : Int)).Store.Buffer
          · simp only [Bool.false_eq_true, if_false]; exact ih _ _
          · by_cases h0 : c ≥ 0 ∨ j < p
            · simp only [if_true, if_pos h0]
            · simp only [if_true, if_neg h0]; exact ih _ _
        · simp only [if_true]
    exact key _ _ _
  · intro s j _ hj
    show impl_Nest_taker_L1 l p s (j : Int) = _
    have hkp := hk _ (ix_mem hp)
    have hkj := hk _ (ix_mem hj)
    unfold impl_Nest_taker_L1 impl_Nest_taker_J2 badK
    rw [if_pos (lt_ hj), if_pos (inr_ hj), w64k (by unfold big; omega)]
    generalize hP : ix l.Kernels (p : Int) = P at *
    generalize ix l.Kernels (j : Int) = K at *
    have e1 : ((j : Int) != (p : Int)) = decide (j ≠ p) := by
      by_cases q : j = p
      · simp [q]
      · have : ¬ (j : Int) = (p : Int) := by omega
        simp [q, this]
    have e2 : decide ((j : Int) ≥ (p : Int)) = decide (p ≤ j) := decide_eq_decide.2 (by omega)
    have e3 : decide ((j : Int) < (p : Int)) = decide (j < p) := decide_eq_decide.2 (by omega)
    obtain ⟨n2, f2, g2⟩ := loadsOf_eq K P.Store.Buffer hkj
    rw [e1, e2, e3]
    cases hA : (decide (j ≠ p) && K.Store.Buffer == P.Store.Buffer)
    · cases hB : decide (p ≤ j)
      · simp only [Bool.not_false, Bool.and_false, gc_f, bind_some', Bool.false_and, Bool.or_self, Bool.false_eq_true, if_false]
        rw [f2, bind_some', g2]
        cases hasB K P.Store.Buffer
        · simp
        · by_cases q1 : s ≥ 0 <;> by_cases q2 : j < p <;> simp [q1, q2]
      · obtain ⟨n, f1, g1⟩ := loadsOf_eq P K.Store.Buffer hkp
        simp only [Bool.not_false, Bool.and_self, gc_t, f1, bind_some', Bool.false_or, Bool.true_and, g1]
        cases hh : hasB P K.Store.Buffer
        · simp only [Bool.false_eq_true, if_false]
          rw [f2, bind_some', g2]
          cases hasB K P.Store.Buffer
          · simp
          · by_cases q1 : s ≥ 0 <;> by_cases q2 : j < p <;> simp [q1, q2]
        · simp
    · simp [gc_f, bind_some']
  · intro s _
    show impl_Nest_taker_L1 l p s (l.Kernels.length : Int) = _
    unfold impl_Nest_taker_L1; simp only [nlt_, Bool.false_eq_true, if_false]
theorem whole_taker (l : Nest) (p : Nat) (hp : p < l.Kernels.length) (hl : l.Kernels.length ≤ 1048576) (ho : l.Outs.length ≤ 1048576) (hk : ∀ k ∈ l.Kernels, KOk l.Sizes k) :
    ∃ r, spec_l11Whole l p = some (!(preB l (ix l.Kernels (p : Int)) r) && whL (ix l.Kernels (p : Int)) p l.Kernels 0) ∧ impl_Nest_taker l p = some (if preB l (ix l.Kernels (p : Int)) r then -1 else tkL (ix l.Kernels (p : Int)) p l.Kernels 0 (-1)) := by
  have hK := hk _ (ix_mem hp)
  obtain ⟨r, hr⟩ := steps_tot (ix l.Kernels (p : Int)).Loops hK.sm.loops
  have h1 := wholeL l p hp hl hK.sm.loads
  have h2 := takerL l p hp hl (fun k hk' => (hk k hk').sm.loads)
  refine ⟨r, ?_, ?_⟩
  · unfold spec_l11Whole preB
    rw [if_pos (inr_ hp)]
    generalize ix l.Kernels (p : Int) = P at *
    show (gcall (!(c1B P)) _).bind _ = _
    cases hc : c1B P
    · simp only [Bool.not_false, gc_t, strides_same, hr, bind_some', same_eq _ _ (show P.Store.Steps.length < big by have := hK.sm.store; unfold big; omega)]
      have hc' : (P.Sum || (P.Store.Offset != (0 : Int))) = false := hc
      simp only [hc', Bool.not_false, gc_t, bind_some', Bool.false_or]
      cases hd : decide (P.Store.Steps = r)
      · simp [gc_f, bind_some']
      · simp only [Bool.not_true, Bool.not_false, gc_t, prod_eq _ (show P.Loops.length < big by have := hK.sm.loops; unfold big; omega), bind_some', Bool.false_or]
        rw [if_pos (fun _ => hK.buf)]
        cases hq : ((prodL P.Loops 1).getD 0 != ix l.Sizes P.Store.Buffer)
        · simp only [Bool.not_false, gc_t, l7Has_eq _ _ (show l.Outs.length < big by unfold big; omega), bind_some', Bool.false_or]
          cases ho' : decide (P.Store.Buffer ∈ l.Outs)
          · simp only [Bool.false_eq_true, if_false, h1, bind_some', Bool.not_false, Bool.true_and]
            cases whL P p l.Kernels 0 <;> rfl
          · simp
        · simp [gc_f, bind_some']
    · have hc' : (P.Sum || (P.Store.Offset != (0 : Int))) = true := hc
      simp [hc', gc_f, bind_some']
  · unfold impl_Nest_taker preB
    rw [if_pos (inr_ hp)]
    generalize ix l.Kernels (p : Int) = P at *
    obtain ⟨w, ew, hw⟩ : ∃ w, impl_work P.Loops = some w ∧ w.1 = (prodL P.Loops 1).getD 0 := ⟨_, work_eq _ (show P.Loops.length < big by have := hK.sm.loops; unfold big; omega), by cases prodL P.Loops 1 <;> rfl⟩
    rw [ew, bind_some', hw]
    show (gcall (!(c1B P)) _).bind _ = _
    cases hc : c1B P
    · simp only [Bool.not_false, gc_t, hr, bind_some', equal_same, same_eq _ _ (show P.Store.Steps.length < big by have := hK.sm.store; unfold big; omega)]
      have hc' : (P.Sum || (P.Store.Offset != (0 : Int))) = false := hc
      simp only [hc', Bool.not_false, gc_t, bind_some', Bool.false_or]
      cases hd : decide (P.Store.Steps = r)
      · simp [gc_f, bind_some']
      · simp only [Bool.not_true, Bool.not_false, gc_t, bind_some', Bool.false_or]
        rw [if_pos (fun _ => hK.buf)]
        cases hq : ((prodL P.Loops 1).getD 0 != ix l.Sizes P.Store.Buffer)
        · simp only [Bool.not_false, gc_t, contains_eq _ _ (show l.Outs.length < big by unfold big; omega), bind_some', Bool.false_or]
          cases ho' : decide (P.Store.Buffer ∈ l.Outs)
          · simp only [Bool.false_eq_true, if_false]; exact h2
          · simp
        · simp [gc_f, bind_some']
    · have hc' : (P.Sum || (P.Store.Offset != (0 : Int))) = true := hc
      simp [hc', gc_f, bind_some']
end Go.Proofs.Ytbdchgofcejiiaa
