import Derived.Test.YtkfgngcfcoplpaaGeF
import Derived.Test.YtkfgngcfcoplpaaPL1
set_option linter.unusedVariables false
set_option linter.unusedSimpArgs false
namespace Go.Proofs.Ytkfgngcfcoplpaa
open Go Go.Pg
def lim : Nat := 9223372036854775807
theorem inr_ {k : Nat} {n : Nat} (h : k < n) : (0 : Int) ≤ (k : Int) ∧ (k : Int) < (n : Int) := ⟨by omega, by omega⟩
theorem lt_ {k : Nat} {n : Nat} (h : k < n) : (decide ((k : Int) < (n : Int))) = true := by simpa using h
theorem nlt_ {n : Nat} : (decide ((n : Int) < (n : Int))) = false := by simp
theorem all_range_eq (xs ys : List Int) (h : xs.length = ys.length) : ((List.range xs.length).all fun k => ix xs (k : Int) == ix ys (k : Int)) = decide (xs = ys) := by
  by_cases e : xs = ys
  · subst e; simp
  · simp only [e, decide_false]
    rw [List.all_eq_false]
    refine Classical.byContradiction fun hn => e ?_
    refine List.ext_getElem h fun k h1 h2 => ?_
    refine Classical.byContradiction fun hne => hn ⟨k, by simpa using h1, ?_⟩
    rw [ix_at h1, ix_at h2]
    simpa using hne
theorem same_eq (xs ys : List Int) (h : xs.length < big) : Zo xs ys = some (decide (xs = ys)) := by
  unfold Zo
  by_cases hl : xs.length = ys.length
  · rw [if_neg (by simp [hl])]
    rw [loop_allI xs.length (fun s : Int => Zo_L1 xs ys s) (fun i => i) (fun k => ix xs (k : Int) == ix ys (k : Int)) (.inl false) (.inr ()) (fun k hk => by
      unfold Zo_L1
      rw [if_pos (lt_ hk), if_pos (inr_ hk), if_pos (inr_ (hl ▸ hk)), w64k (by omega)]
      by_cases hq : ix xs (k : Int) = ix ys (k : Int)
      · simp [hq]
      · simp [hq]) (by unfold Zo_L1; simp only [nlt_, Bool.false_eq_true, if_false])]
    rw [all_range_eq xs ys hl, bind_some']
    by_cases e : xs = ys <;> simp [e, Zo_J1]
  · rw [if_pos (by simp; omega)]
    have : xs ≠ ys := fun e => hl (by rw [e])
    simp [this]
def Rg (g : List Bool) (n : Nat) (gl : List Int) : Prop := g.length = n ∧ ∀ j : Nat, j < n → ix g (j : Int) = decide ((j : Int) ∈ gl)
theorem Rg.set {g : List Bool} {n : Nat} {gl : List Int} (h : Rg g n gl) {b : Int} (h0 : 0 ≤ b) (h1 : b < (n : Int)) : Rg (g.set b.toNat true) n (gl ++ [b]) := by
  obtain ⟨hl, hx⟩ := h
  refine ⟨by simpa using hl, fun j hj => ?_⟩
  obtain ⟨c, rfl⟩ := Int.eq_ofNat_of_zero_le h0
  have hj' : j < (g.set (c : Int).toNat true).length := by simpa [hl] using hj
  rw [ix_at hj', List.getElem_set]
  by_cases e : (c : Int).toNat = j
  · rw [if_pos e]; have : c = j := by omega
    subst this; simp
  · rw [if_neg e]
    have h2 := hx j hj
    rw [ix_at (by omega)] at h2
    rw [h2]
    have : ¬ (j : Int) = (c : Int) := by omega
    simp [this]
theorem ints_eq (xs : List Int) (h : xs.length ≤ 1048576) : Z0v xs = some xs := by
  unfold Z0v; rw [if_pos (by simp; omega)]; simp
theorem cloneI_eq (xs : List Int) (h : xs.length ≤ 1048576) : Z0h xs = some xs := by
  unfold Z0h; rw [if_pos (by omega)]
theorem ix_set {α : Type} [Inhabited α] {ys : List α} {k : Nat} {v : α} (h : k < ys.length) : ix (ys.set k v) (k : Int) = v := by
  rw [ix_at (by simpa using h)]; simp
theorem ix_set_ne {α : Type} [Inhabited α] {ys : List α} {k j : Nat} {v : α} (h : k ≠ j) : ix (ys.set k v) (j : Int) = ix ys (j : Int) := by
  simp [ix, List.getD_eq_getElem?_getD, List.getElem?_set, h]
theorem wi {n k : Nat} (hn : n ≤ 1048576) (h : k < n) : w64 ((k : Int) + 1) = ((k + 1 : Nat) : Int) := w64k (by unfold big; omega)
end Go.Proofs.Ytkfgngcfcoplpaa
