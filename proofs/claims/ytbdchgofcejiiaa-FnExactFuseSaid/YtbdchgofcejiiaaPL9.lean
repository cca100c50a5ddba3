import Derived.Test.YtbdchgofcejiiaaPL8
set_option linter.unusedVariables false
set_option linter.unusedSimpArgs false
namespace Go.Proofs.Ytbdchgofcejiiaa
open Go Go.Pg
def hasB (k : Kernel) (b : Int) : Bool := k.Loads.any fun a => a.Buffer == b
def usesF (b : Int) : List Access → Nat → List Int
  | [], _ => []
  | a :: t, j => if a.Buffer == b then (j : Int) :: usesF b t (j + 1) else usesF b t (j + 1)
theorem uses_eq (k : Kernel) (b : Int) (h : k.Loads.length ≤ 1048576) : spec_l11Uses k b = some (usesF b k.Loads 0) := by
  unfold spec_l11Uses
  rw [loop_goI (S := List Int) k.Loads (fun j s => s.length ≤ j) (fun s : (List Int) × Int => spec_l11Uses_L1 k b s.1 s.2) (fun s i => (s, i)) (fun s j a => .inl (if a.Buffer == b then s ++ [(j : Int)] else s)) (fun s => s) ?_ ?_ ?_ [] (by simp)]
  · rw [bind_some']
    unfold spec_l11Uses_J3
    congr 1
    have key : ∀ (xs : List Access) (acc : List Int) (j : Nat), goI (R := List Int) (fun s j a => .inl (if a.Buffer == b then s ++ [(j : Int)] else s)) (fun s => s) xs j acc = acc ++ usesF b xs j := by
      intro xs
      induction xs with
      | nil => intro acc j; simp [goI, usesF]
      | cons a t ih =>
        intro acc j
        unfold goI usesF
        simp only []
        rw [ih]
        split <;> simp
    exact key _ _ _
  · intro s j hI hj
    show spec_l11Uses_L1 k b s (j : Int) = _
    unfold spec_l11Uses_L1 spec_l11Uses_J2
    rw [if_pos (lt_ hj), if_pos (inr_ hj), w64k (by unfold big; omega)]
    cases hq : ((ix k.Loads (j : Int)).Buffer == b)
    · simp
    · rw [if_pos rfl, if_pos (by simp; omega)]; simp
  · intro s j s' hI hj hs
    injection hs with hs; subst hs
    split
    · simp; omega
    · omega
  · intro s _
    show spec_l11Uses_L1 k b s (k.Loads.length : Int) = _
    unfold spec_l11Uses_L1; simp only [nlt_, Bool.false_eq_true, if_false]
theorem usesF_nil (b : Int) (xs : List Access) (j : Nat) : ((usesF b xs j).length = 0) ↔ (xs.any fun a => a.Buffer == b) = false := by
  induction xs generalizing j with
  | nil => simp [usesF]
  | cons a t ih =>
    unfold usesF
    rw [List.any_cons]
    cases hq : (a.Buffer == b)
    · simpa [hq] using ih (j + 1)
    · simp
theorem loadsOf_eq (k : Kernel) (b : Int) (h : k.Loads.length ≤ 1048576) : ∃ n : Int, impl_Kernel_loadsOf k b = some n ∧ (decide (n > 0)) = hasB k b := by
  unfold impl_Kernel_loadsOf
  rw [loop_goI (S := Int) k.Loads (fun j s => 0 ≤ s ∧ s ≤ j) (fun s : Int × Int => impl_Kernel_loadsOf_L1 k b s.1 s.2) (fun s i => (s, i)) (fun s j a => .inl (if a.Buffer == b then s + 1 else s)) (fun s => s) ?_ ?_ ?_ 0 (by omega)]
  · refine ⟨_, rfl, ?_⟩
    have key : ∀ (xs : List Access) (acc : Int) (j : Nat), 0 ≤ acc → decide (goI (R := Int) (fun s j a => .inl (if a.Buffer == b then s + 1 else s)) (fun s => s) xs j acc > 0) = (decide (acc > 0) || xs.any fun a => a.Buffer == b) := by
      intro xs
      induction xs with
      | nil => intro acc j _; simp [goI]
      | cons a t ih =>
        intro acc j h0
        unfold goI
        simp only []
        rw [ih _ _ (by split <;> omega), List.any_cons]
        cases hq : (a.Buffer == b)
        · simp
        · simp; left; omega
    have := key k.Loads 0 0 (by omega)
    rw [this]; rfl
  · rintro s j ⟨i0, i1⟩ hj
    show impl_Kernel_loadsOf_L1 k b s (j : Int) = _
    unfold impl_Kernel_loadsOf_L1 impl_truth
    rw [if_pos (lt_ hj), if_pos (inr_ hj), w64k (by unfold big; omega)]
    cases hq : ((ix k.Loads (j : Int)).Buffer == b)
    · simp [bind_some', w64_id (n := s) (by omega) (by omega)]
    · simp [bind_some', w64_id (n := s + 1) (by omega) (by omega)]
  · rintro s j s' ⟨i0, i1⟩ hj hs
    injection hs with hs; subst hs
    split <;> omega
  · intro s _
    show impl_Kernel_loadsOf_L1 k b s (k.Loads.length : Int) = _
    unfold impl_Kernel_loadsOf_L1; simp only [nlt_, Bool.false_eq_true, if_false]
def rdrL (b : Int) : List Kernel → Nat → Int → Int
  | [], _, c => c
  | k :: ks, i, c => if hasB k b then (if c ≥ 0 then -1 else rdrL b ks (i + 1) i) else rdrL b ks (i + 1) c
/-- May the kernel at p not go, because of the one at i? -/
def badK (P : Kernel) (p : Nat) (i : Nat) (k : Kernel) : Bool := (decide (i ≠ p) && k.Store.Buffer == P.Store.Buffer) || (decide (p ≤ i) && hasB P k.Store.Buffer)
def whL (P : Kernel) (p : Nat) : List Kernel → Nat → Bool
  | [], _ => true
  | k :: ks, i => !(badK P p i k) && whL P p ks (i + 1)
def tkL (P : Kernel) (p : Nat) : List Kernel → Nat → Int → Int
  | [], _, c => c
  | k :: ks, i, c => if badK P p i k then -1 else if hasB k P.Store.Buffer then (if c ≥ 0 ∨ i < p then -1 else tkL P p ks (i + 1) i) else tkL P p ks (i + 1) c
theorem rdr_mul (b : Int) (ks : List Kernel) (i : Nat) (c : Int) (hc : 0 ≤ c) : rdrL b ks i c = c ∨ rdrL b ks i c = -1 := by
  induction ks generalizing i with
  | nil => exact .inl rfl
  | cons k ks ih =>
    unfold rdrL
    split
    · first | exact .inr rfl | (rw [if_pos hc]; exact .inr rfl)
    · exact ih _
theorem tk_eq (P : Kernel) (p : Nat) (ks : List Kernel) (i : Nat) (c : Int) (hc : c = -1 ∨ (p : Int) ≤ c) :
    tkL P p ks i c = if whL P p ks i = true ∧ (p : Int) ≤ rdrL P.Store.Buffer ks i c then rdrL P.Store.Buffer ks i c else -1 := by
  induction ks generalizing i c with
  | nil =>
    unfold tkL whL rdrL
    rcases hc with rfl | hc
    · rw [if_neg (fun h => by have := h.2; omega)]
    · rw [if_pos ⟨rfl, hc⟩]
  | cons k ks ih =>
    unfold tkL whL rdrL
    cases hb : badK P p i k
    · simp only [Bool.false_eq_true, if_false, Bool.not_false, Bool.true_and]
      cases hh : hasB k P.Store.Buffer
      · simp only [Bool.false_eq_true, if_false]; exact ih _ _ hc
      · simp only [if_true]
        by_cases h0 : c ≥ 0
        · rw [if_pos (.inl h0), if_pos h0, if_neg (fun h => by have := h.2; omega)]
        · by_cases h1 : i < p
          · rw [if_pos (.inr h1), if_neg h0]
            rcases rdr_mul P.Store.Buffer ks (i + 1) (i : Int) (by omega) with e | e
            · rw [e, if_neg (fun h => by have := h.2; omega)]
            · rw [e, if_neg (fun h => by have := h.2; omega)]
          · rw [if_neg (by omega), if_neg h0]
            exact ih _ _ (.inr (by omega))
    · simp
theorem rdr_at (b : Int) (ks : List Kernel) (i : Nat) (c : Int) (r : Int) (h : rdrL b ks i c = r) (h0 : 0 ≤ r) (hc : c < 0) : ∃ j : Nat, r = (i + j : Nat) ∧ ∃ h : j < ks.length, hasB ks[j] b = true := by
  induction ks generalizing i c with
  | nil => unfold rdrL at h; omega
  | cons k ks ih =>
    unfold rdrL at h
    cases hh : hasB k b
    · rw [hh] at h
      simp only [Bool.false_eq_true, if_false] at h
      obtain ⟨j, e, hj, q⟩ := ih (i + 1) c h hc
      exact ⟨j + 1, by rw [e]; omega, by simpa using hj, by simpa using q⟩
    · rw [hh] at h
      simp only [if_true] at h
      rw [if_neg (by omega)] at h
      rcases rdr_mul b ks (i + 1) (i : Int) (by omega) with e | e
      · exact ⟨0, by omega, by simp, by simpa using hh⟩
      · omega
theorem wh_at (P : Kernel) (p : Nat) (ks : List Kernel) (i : Nat) (h : whL P p ks i = true) (j : Nat) (hj : j < ks.length) : badK P p (i + j) ks[j] = false := by
  induction ks generalizing i j with
  | nil => simp at hj
  | cons k ks ih =>
    unfold whL at h
    simp only [Bool.and_eq_true, Bool.not_eq_true'] at h
    cases j with
    | zero => simpa using h.1
    | succ j => have := ih (i + 1) h.2 j (by simpa using hj); rw [show i + (j + 1) = i + 1 + j by omega]; simpa using this
/-- What is asked of the kernels of a nest, for the loops' sake. -/
structure KOk (sizes : List Int) (k : Kernel) : Prop where
  sm : SmK k
  buf : 0 ≤ k.Store.Buffer ∧ k.Store.Buffer < (sizes.length : Int)
theorem reader_eq (ks : List Kernel) (b : Int) (hl : ks.length ≤ 1048576) (hk : ∀ k ∈ ks, k.Loads.length ≤ 1048576) : spec_l11Reader ks b = some (rdrL b ks 0 (-1)) := by
  unfold spec_l11Reader
  rw [loop_goI (S := Int) ks (fun _ _ => True) (fun s : Int × Int => spec_l11Reader_L1 ks b s.1 s.2) (fun s i => (s, i)) (fun s j k => if hasB k b then (if s ≥ 0 then .inr (.inl (-1)) else .inl (j : Int)) else .inl s) (fun s => .inr s) ?_ (fun _ _ _ _ _ _ => trivial) ?_ (-1) trivial]
  · rw [bind_some']
    have key : ∀ (xs : List Kernel) (j : Nat) (c : Int), (match goI (R := Int ⊕ Int) (fun s j k => if hasB k b then (if s ≥ 0 then .inr (.inl (-1)) else .inl (j : Int)) else .inl s) (fun s => .inr s) xs j c with | .inl e => some e | .inr e => spec_l11Reader_J3 e) = some (rdrL b xs j c) := by
      intro xs
      induction xs with
      | nil => intro j c; rfl
      | cons k ks ih =>
        intro j c
        unfold goI rdrL
        cases hh : hasB k b
        · simp only [Bool.false_eq_true, if_false]; exact ih _ _
        · by_cases h0 : c ≥ 0
          · simp only [if_true, if_pos h0]
          · simp only [if_true, if_neg h0]; exact ih _ _
    exact key _ _ _
  · intro s j _ hj
    show spec_l11Reader_L1 ks b s (j : Int) = _
    unfold spec_l11Reader_L1 spec_l11Reader_J2
    rw [if_pos (lt_ hj), if_pos (inr_ hj), uses_eq _ _ (hk _ (ix_mem hj)), bind_some', w64k (by unfold big; omega)]
    have hu := usesF_nil b (ix ks (j : Int)).Loads 0
    cases hh : hasB (ix ks (j : Int)) b
    · have := hu.2 hh
      rw [if_pos (by simp; exact List.eq_nil_of_length_eq_zero this)]
      simp
    · have : ¬ (usesF b (ix ks (j : Int)).Loads 0).length = 0 := fun e => by have := hu.1 e; unfold hasB at hh; rw [this] at hh; cases hh
      rw [if_neg (by simp; exact fun e => this (by rw [e]; rfl))]
      by_cases h0 : s ≥ 0
      · simp [h0]
      · simp [h0]
  · intro s _
    show spec_l11Reader_L1 ks b s (ks.length : Int) = _
    unfold spec_l11Reader_L1; simp only [nlt_, Bool.false_eq_true, if_false]
end Go.Proofs.Ytbdchgofcejiiaa
