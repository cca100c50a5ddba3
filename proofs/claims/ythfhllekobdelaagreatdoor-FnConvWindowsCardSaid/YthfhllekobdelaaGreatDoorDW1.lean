import Derived.Test.YthfhllekobdelaaGreatDoorPgF
import Derived.Test.YthfhllekobdelaaGreatDoorPL1
import Derived.Test.YthfhllekobdelaaGreatDoorPg22
set_option linter.unusedVariables false
namespace Go.Pg
def Oc {α : Type} (x : Option α) (P : α → Prop) : Prop := ∃ r, x = some r ∧ P r
theorem Oc.mk {α : Type} {x : α} {P : α → Prop} (h : P x) : Oc (some x) P := ⟨x, rfl, h⟩
theorem Oc.bind {α β : Type} {x : Option α} {P : α → Prop} {f : α → Option β} {Q : β → Prop} (h : Oc x P) (g : ∀ r, P r → Oc (f r) Q) : Oc (x.bind f) Q := by
  obtain ⟨r, rfl, p⟩ := h; exact g r p
theorem Oc.imp {α : Type} {x : Option α} {P Q : α → Prop} (h : Oc x P) (g : ∀ r, P r → Q r) : Oc x Q := by
  obtain ⟨r, e, p⟩ := h; exact ⟨r, e, g r p⟩
theorem Oc.ite {α : Type} {c : Prop} [Decidable c] {x y : Option α} {P : α → Prop} (h1 : c → Oc x P) (h2 : ¬c → Oc y P) : Oc (if c then x else y) P := by
  split
  · exact h1 ‹_›
  · exact h2 ‹_›
theorem Oc.gd {α : Type} {c : Prop} [Decidable c] {x : Option α} {P : α → Prop} (a : c) (h : Oc x P) : Oc (if c then x else none) P := by rw [if_pos a]; exact h
theorem Oc.loop {S R : Type} {f : S → Option (S ⊕ R)} {P : R → Prop} (I : Nat → S → Prop)
    (h : ∀ k s, I k s → Oc (f s) (fun x => match x with | .inl s' => ∃ a, a < k ∧ I a s' | .inr r => P r)) {k : Nat} {s : S} (b : I k s) : Oc (bC f s) P := by
  induction k using Nat.strongRecOn generalizing s with
  | _ k ih =>
    obtain ⟨x, e, p⟩ := h k s b
    cases x with
    | inl s' =>
      obtain ⟨a, i, g⟩ := p
      rw [eV e]
      exact ih a i g
    | inr r => exact ⟨r, eD e, p⟩
theorem qG (x : Int) : 0 ≤ bits .and .i64 x 255 ∧ bits .and .i64 x 255 ≤ 255 := by
  have h : (BitVec.ofInt 64 x &&& BitVec.ofInt 64 255).toNat ≤ 255 := by
    rw [BitVec.toNat_and]
    exact Nat.le_trans Nat.and_le_right (by decide)
  have e : bits .and .i64 x 255 = aG (((BitVec.ofInt 64 x &&& BitVec.ofInt 64 255).toNat : Nat) : Int) := rfl
  rw [e]
  generalize (BitVec.ofInt 64 x &&& BitVec.ofInt 64 255).toNat = n at h
  rw [aX (by omega) (by omega)]; omega
theorem nZ {x n : Int} (a : 0 ≤ x) (h1 : 0 < n) : 0 ≤ x.tmod n ∧ x.tmod n < n := by
  rw [Int.tmod_eq_emod_of_nonneg a]
  exact ⟨Int.emod_nonneg _ (by omega), Int.emod_lt_of_pos _ h1⟩
end Go.Pg
