import GoSem.Core.View
set_option linter.unusedVariables false
namespace Go.Pg
def ge {S R : Type} (f : S → Option (S ⊕ R)) : Nat → S → Option R
  | 0, _ => none
  | k + 1, s => match f s with
    | some (.inl s') => ge f k s'
    | some (.inr r) => some r
    | none => none
theorem jK {S R : Type} {f : S → Option (S ⊕ R)} {k : Nat} {s : S} {r : R} (h : ge f k s = some r) : ∀ m, k ≤ m → ge f m s = some r := by
  induction k generalizing s with
  | zero => cases h
  | succ k ih =>
    intro m a
    obtain ⟨m, rfl⟩ : ∃ j, m = j + 1 := ⟨m - 1, by omega⟩
    simp only [ge] at h ⊢
    split at h
    · rename_i s' e; exact ih h m (by omega)
    · exact h
    · cases h
open Classical in
noncomputable def bC {S R : Type} (f : S → Option (S ⊕ R)) (s : S) : Option R := if h : ∃ k r, ge f k s = some r then some (choose (choose_spec h)) else none
theorem jL {S R : Type} {f : S → Option (S ⊕ R)} {s : S} {k : Nat} {r : R} (h : ge f k s = some r) : bC f s = some r := by
  have e : ∃ k r, ge f k s = some r := ⟨k, r, h⟩
  unfold bC
  rw [dif_pos e]
  have h2 := Classical.choose_spec (Classical.choose_spec e)
  have a := jK h2 _ (Nat.le_max_left _ k)
  have b := jK h _ (Nat.le_max_right (Classical.choose e) k)
  rw [a] at b
  exact b
theorem jM {S R : Type} {f : S → Option (S ⊕ R)} {s : S} {r : R} (h : bC f s = some r) : ∃ k, ge f k s = some r := by
  unfold bC at h
  split at h
  · rename_i a
    injection h with h
    subst h
    exact ⟨_, Classical.choose_spec (Classical.choose_spec a)⟩
  · cases h
theorem eD {S R : Type} {f : S → Option (S ⊕ R)} {s : S} {r : R} (h : f s = some (.inr r)) : bC f s = some r := jL (k := 1) (by simp [ge, h])
theorem eV {S R : Type} {f : S → Option (S ⊕ R)} {s s' : S} (h : f s = some (.inl s')) : bC f s = bC f s' := by
  cases e : bC f s' with
  | some r =>
    obtain ⟨k, a⟩ := jM e
    exact jL (k := k + 1) (by simp [ge, h, a])
  | none =>
    cases e2 : bC f s with
    | none => rfl
    | some r =>
      obtain ⟨k, a⟩ := jM e2
      cases k with
      | zero => cases a
      | succ k =>
        simp only [ge, h] at a
        rw [jL a] at e
        cases e
abbrev aG (n : Int) : Int := IntKind.wrap .i64 n
theorem sY (n : Int) : aG n = (n + 9223372036854775808) % 18446744073709551616 - 9223372036854775808 := by
  simp [aG, IntKind.wrap, IntKind.bits, IntKind.signed]
  split <;> omega
theorem aX {n : Int} (a : -9223372036854775808 ≤ n) (h1 : n ≤ 9223372036854775807) : aG n = n := by rw [sY]; omega
def ix {α : Type} [Inhabited α] (xs : List α) (i : Int) : α := xs.getD i.toNat default
def sub {α : Type} (xs : List α) (l h : Int) : List α := (xs.take h.toNat).drop l.toNat
abbrev aO := List UInt8
def bt (s : aO) (i : Int) : Int := ((ix s i).toNat : Int)
theorem bd {α β : Type} {x : Option α} {f : α → Option β} {r : β} (h : x.bind f = some r) : ∃ m, x = some m ∧ f m = some r := Option.bind_eq_some_iff.1 h
theorem gd {α : Type} {c : Prop} [Decidable c] {x : Option α} {r : α} (h : (if c then x else none) = some r) : c ∧ x = some r := by
  split at h
  · exact ⟨‹_›, h⟩
  · cases h
end Go.Pg
