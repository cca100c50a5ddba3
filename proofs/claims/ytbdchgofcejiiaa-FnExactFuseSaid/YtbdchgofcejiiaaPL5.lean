import Derived.Test.YtbdchgofcejiiaaPL4
set_option linter.unusedVariables false
set_option linter.unusedSimpArgs false
namespace Go.Proofs.Ytbdchgofcejiiaa
open Go Go.Pg
theorem gc_t {α : Type} [Inhabited α] (x : Option α) : gcall true x = x := rfl
theorem gc_f {α : Type} [Inhabited α] (x : Option α) : gcall false x = some default := rfl
def accB (sizes loops : List Int) (a : Access) : Bool := decide (0 ≤ a.Buffer) && decide (a.Buffer < (sizes.length : Int)) && fitB a loops (ix sizes a.Buffer)
def ldB (sizes : List Int) (k : Kernel) (a : Access) : Bool := accB sizes k.Loops a && !(a.Buffer == k.Store.Buffer)
def kerB (sizes : List Int) (k : Kernel) : Bool :=
  decide (k.Loops.length ≤ 12) && decide (k.Loads.length ≤ 30) && (prodL k.Loops 1).isSome && codeB k.Code k.Loads.length && accB sizes k.Loops k.Store && k.Loads.all (ldB sizes k)
theorem loopsOk {xs : List Int} {r : Int} (h1 : xs.length ≤ 12) (h : prodL xs 1 = some r) : LoopsOk xs := ⟨h1, (prodL_pos (by decide) (by decide) h).2.2⟩
theorem spec_ker_eq (k : Kernel) (sizes : List Int) (hs : ∀ x ∈ sizes, x ≤ 4096) : spec_l11Kernel k sizes = some (kerB sizes k) := by
  unfold spec_l11Kernel kerB
  by_cases h1 : k.Loops.length > 12
  · have e : decide ((k.Loops.length : Int) > 12) = true := decide_eq_true (by omega)
    simp only [e, Bool.true_or, Bool.not_true, gc_f, bind_some', if_true]
    simp [Nat.not_le.2 h1]
  have e1 : decide ((k.Loops.length : Int) > 12) = false := by simpa using by omega
  by_cases h2 : k.Loads.length > 30
  · have e : decide ((k.Loads.length : Int) > 30) = true := decide_eq_true (by omega)
    simp only [e, e1, Bool.true_or, Bool.or_true, Bool.not_true, gc_f, bind_some', if_true]
    simp [Nat.not_le.2 h2]
  have e2 : decide ((k.Loads.length : Int) > 30) = false := by simpa using by omega
  have d1 : decide (k.Loops.length ≤ 12) = true := by simpa using by omega
  have d2 : decide (k.Loads.length ≤ 30) = true := by simpa using by omega
  rw [prod_eq _ (by unfold big; omega), e1, e2, d1, d2]
  simp only [Bool.or_self, Bool.not_false, gc_t, bind_some', Bool.false_or, Bool.true_and]
  cases hp : prodL k.Loops 1 with
  | none => simp [gc_f, bind_some']
  | some r =>
    have hr := (prodL_pos (by decide) (by decide) hp).1
    have hl := loopsOk (by omega) hp
    have e3 : (r == 0) = false := by simpa using by omega
    simp only [Option.getD_some, e3, Bool.not_false, gc_t, code_eq, bind_some', Bool.false_or, Option.isSome_some, Bool.true_and]
    cases hc : codeB k.Code k.Loads.length
    · simp [gc_f, bind_some']
    · simp only [Bool.not_true, Bool.not_false, gc_t, spec_acc_eq _ _ _ hl hs, bind_some', Bool.false_or, Bool.true_and]
      show (if (!(accB sizes k.Loops k.Store)) = true then _ else _) = some (accB sizes k.Loops k.Store && _)
      cases ha : accB sizes k.Loops k.Store
      · rfl
      · simp only [Bool.not_true, Bool.false_eq_true, if_false, Bool.true_and]
        rw [loop_all k.Loads (fun s : Int => spec_l11Kernel_L1 k sizes s) (fun i => i) (ldB sizes k) (.inl false) (.inr ()) (fun j hj => by
          unfold spec_l11Kernel_L1
          rw [if_pos (lt_ hj), if_pos (inr_ hj), w64k (by unfold big; omega), spec_acc_eq _ _ _ hl hs, bind_some']
          show (if (!(accB sizes k.Loops (ix k.Loads (j : Int))) || _) = true then _ else _) = some (if (accB sizes k.Loops (ix k.Loads (j : Int)) && _) then _ else _)
          cases accB sizes k.Loops (ix k.Loads (j : Int)) <;> cases ((ix k.Loads (j : Int)).Buffer == k.Store.Buffer) <;> rfl) (by unfold spec_l11Kernel_L1; simp only [nlt_, Bool.false_eq_true, if_false])]
        rw [bind_some']
        cases k.Loads.all (ldB sizes k) <;> rfl
theorem ix_mem' {α : Type} [Inhabited α] {xs : List α} {i : Int} (h0 : 0 ≤ i) (h1 : i < (xs.length : Int)) : ix xs i ∈ xs := by
  obtain ⟨j, rfl⟩ := Int.eq_ofNat_of_zero_le h0
  exact ix_mem (by omega)
theorem impl_ker_eq (l : Nest) (k : Kernel) (g : List Bool) (hg : g.length = l.Sizes.length) (hs : ∀ x ∈ l.Sizes, x ≤ 4096) (hb : k.Loops.length < big) : ∃ n, impl_Nest_kernelOk l k g = some (n, kerB l.Sizes k && !(ix g k.Store.Buffer)) ∧ (kerB l.Sizes k = true → n = (prodL k.Loops 1).getD 0) := by
  unfold impl_Nest_kernelOk kerB
  rw [work_eq _ hb, bind_some']
  cases hp : prodL k.Loops 1 with
  | none => exact ⟨0, by simp [gc_f, bind_some'], by simp⟩
  | some r =>
  simp only
  by_cases h1 : k.Loops.length > 12
  · have d1 : decide (k.Loops.length ≤ 12) = false := by simpa using h1
    exact ⟨0, by simp [gc_f, bind_some', d1], by simp [d1]⟩
  have d1 : decide (k.Loops.length ≤ 12) = true := by simpa using by omega
  by_cases h2 : k.Loads.length > 30
  · have e : decide ((k.Loads.length : Int) > 30) = true := decide_eq_true (by omega)
    have d2 : decide (k.Loads.length ≤ 30) = false := by simpa using h2
    exact ⟨0, by simp [gc_f, bind_some', d2, e, d1], by simp [d2]⟩
  have e2 : decide ((k.Loads.length : Int) > 30) = false := by simpa using by omega
  have d2 : decide (k.Loads.length ≤ 30) = true := by simpa using by omega
  have hl := loopsOk (by omega) hp
  rw [d1, d2, e2]
  simp only [Bool.not_true, Bool.or_self, Bool.not_false, gc_t, code_same, code_eq, bind_some', Bool.false_or, Option.isSome_some, Bool.true_and]
  cases hc : codeB k.Code k.Loads.length
  · exact ⟨0, by simp, by simp⟩
  simp only [Bool.not_true, Bool.false_eq_true, if_false, Bool.true_and]
  unfold slices_Clone_impl_Access_impl_Access
  rw [if_pos (by omega), bind_some', if_pos (by simp; omega)]
  have hal : (k.Loads ++ [k.Store]).length < big := by unfold big; simp; omega
  rw [loop_all (k.Loads ++ [k.Store]) (fun s : Int => impl_Nest_kernelOk_L1 l k k.Loads s) (fun i => i) (accB l.Sizes k.Loops) (.inl (0, false)) (.inr ()) (fun j hj => by
    unfold impl_Nest_kernelOk_L1
    rw [if_pos (lt_ hj), if_pos (inr_ hj), w64k (by omega)]
    generalize ix (k.Loads ++ [k.Store]) (j : Int) = a
    unfold accB
    by_cases b1 : a.Buffer < 0
    · rw [if_pos (by simp [b1])]; simp [b1, gc_f, bind_some', Int.not_le.2 b1]
    by_cases b2 : a.Buffer ≥ (l.Sizes.length : Int)
    · rw [if_pos (by simp [b2])]; simp [b2, gc_f, bind_some', Int.not_lt.2 b2]
    have q1 : decide (a.Buffer < 0) = false := by simpa using by omega
    have q2 : decide (a.Buffer ≥ (l.Sizes.length : Int)) = false := by simpa using by omega
    have q3 : decide (0 ≤ a.Buffer) = true := by simpa using by omega
    have q4 : decide (a.Buffer < (l.Sizes.length : Int)) = true := by simpa using by omega
    rw [if_pos (fun _ => ⟨by omega, by omega⟩), q1, q2, q3, q4]
    simp only [Bool.or_self, Bool.not_false, gc_t, Bool.false_or, Bool.true_and]
    rw [impl_fits_eq _ _ _ hl (hs _ (ix_mem' (by omega) (by omega))), bind_some']
    cases fitB a k.Loops (ix l.Sizes a.Buffer) <;> rfl) (by unfold impl_Nest_kernelOk_L1; simp only [nlt_, Bool.false_eq_true, if_false])]
  rw [bind_some', List.all_append]
  simp only [List.all_cons, List.all_nil, Bool.and_true]
  have hall : k.Loads.all (ldB l.Sizes k) = (k.Loads.all (accB l.Sizes k.Loops) && k.Loads.all fun a => !(a.Buffer == k.Store.Buffer)) := by
    generalize k.Loads = L
    induction L with
    | nil => rfl
    | cons a t ih =>
      simp only [List.all_cons, ih, ldB]
      cases accB l.Sizes k.Loops a <;> cases (a.Buffer == k.Store.Buffer) <;> simp
  rw [hall]
  cases hA : k.Loads.all (accB l.Sizes k.Loops)
  · exact ⟨0, by simp, by simp⟩
  cases hS : accB l.Sizes k.Loops k.Store
  · exact ⟨0, by simp, by simp⟩
  simp only [Bool.and_self, if_true, Bool.true_and]
  unfold impl_Nest_kernelOk_J1
  rw [loop_all k.Loads (fun s : Int => impl_Nest_kernelOk_L2 k s) (fun i => i) (fun a => !(a.Buffer == k.Store.Buffer)) (.inl (0, false)) (.inr ()) (fun j hj => by
    unfold impl_Nest_kernelOk_L2
    rw [if_pos (lt_ hj), if_pos (inr_ hj), w64k (by unfold big; omega)]
    cases ((ix k.Loads (j : Int)).Buffer == k.Store.Buffer) <;> rfl) (by unfold impl_Nest_kernelOk_L2; simp only [nlt_, Bool.false_eq_true, if_false])]
  rw [bind_some']
  cases hB : k.Loads.all fun a => !(a.Buffer == k.Store.Buffer)
  · exact ⟨0, by simp, by simp⟩
  · have hr : 0 ≤ k.Store.Buffer ∧ k.Store.Buffer < (g.length : Int) := by
      unfold accB at hS
      simp only [Bool.and_eq_true, decide_eq_true_eq] at hS
      omega
    refine ⟨r, ?_, fun _ => rfl⟩
    simp only [if_true, impl_Nest_kernelOk_J2, Bool.true_and]
    rw [if_pos hr]
def givI : List Int → List Int → Option (List Int)
  | [], g => some g
  | b :: bs, g => if b ∈ g then none else givI bs (g ++ [b])
def givI' (n : Int) : List Int → List Int → Option (List Int)
  | [], g => some g
  | b :: bs, g => if (0 ≤ b ∧ b < n) ∧ ¬ b ∈ g then givI' n bs (g ++ [b]) else none
theorem givI_eq (n : Int) (bs g : List Int) : givI' n bs g = if (bs.all fun x => decide (0 ≤ x) && decide (x < n)) = true then givI bs g else none := by
  induction bs generalizing g with
  | nil => rfl
  | cons b bs ih =>
    unfold givI' givI
    rw [List.all_cons, ih]
    by_cases h1 : 0 ≤ b ∧ b < n
    · by_cases h2 : b ∈ g
      · simp [h1, h2]
      · simp [h1, h2]
    · rw [if_neg (fun h => h1 h.1), if_neg]
      simp only [Bool.and_eq_true, decide_eq_true_eq]
      exact fun h => h1 h.1
def fixOk (sizes : List Int) (f : Fix) : Bool := decide (0 ≤ f.Buffer) && decide (f.Buffer < (sizes.length : Int)) && decide ((f.Data.length : Int) = ix sizes f.Buffer) && f.Data.all num
def givF (sizes : List Int) : List Fix → List Int → Option (List Int)
  | [], g => some g
  | f :: fs, g => if fixOk sizes f = true ∧ ¬ f.Buffer ∈ g then givF sizes fs (g ++ [f.Buffer]) else none
def Rg (g : List Bool) (n : Nat) (gl : List Int) : Prop := g.length = n ∧ ∀ j : Nat, j < n → ix g (j : Int) = decide ((j : Int) ∈ gl)
theorem Rg.set {g : List Bool} {n : Nat} {gl : List Int} (h : Rg g n gl) {b : Int} (h0 : 0 ≤ b) (h1 : b < (n : Int)) : Rg (g.set b.toNat true) n (gl ++ [b]) := by
  obtain ⟨hl, hx⟩ := h
  refine ⟨by simpa using hl, fun j hj => ?_⟩
  obtain ⟨c, rfl⟩ := Int.eq_ofNat_of_zero_le h0
  have hj' : j < (g.set (c : Int).toNat true).length := by simpa [hl] using hj
  rw [ix_at hj', List.getElem_set]
  by_cases e : (c : Int).toNat = j
  · rw [if_pos e]; have : c = j := by omega
    subst this; simp
  · rw [if_neg e]
    have h2 := hx j hj
    rw [ix_at (by omega)] at h2
    rw [h2]
    have : ¬ (j : Int) = (c : Int) := by omega
    simp [this]
theorem take_eq {g : List Bool} {n : Nat} {gl : List Int} (h : Rg g n gl) (b : Int) : impl_Nest_given_1 b g = some (if (0 ≤ b ∧ b < (n : Int)) ∧ ¬ b ∈ gl then (true, g.set b.toNat true) else (false, g)) := by
  obtain ⟨hl, hx⟩ := h
  unfold impl_Nest_given_1
  rw [hl]
  by_cases h1 : b < 0
  · rw [if_pos (by simp [h1]), if_pos (by simp [h1]), if_neg (by omega)]
  by_cases h2 : b ≥ (n : Int)
  · rw [if_pos (by simp [h2]), if_pos (by simp [h2]), if_neg (by omega)]
  rw [if_pos (fun _ => ⟨by omega, by omega⟩)]
  obtain ⟨c, rfl⟩ := Int.eq_ofNat_of_zero_le (Int.not_lt.1 h1)
  rw [hx c (by omega)]
  by_cases h3 : (c : Int) ∈ gl
  · rw [if_pos (by simp [h3]), if_neg (fun h => h.2 h3)]
  · rw [if_neg (by simp [h3]; omega), if_pos ⟨by omega, by omega⟩, if_pos ⟨⟨by omega, by omega⟩, h3⟩]
end Go.Proofs.Ytbdchgofcejiiaa
