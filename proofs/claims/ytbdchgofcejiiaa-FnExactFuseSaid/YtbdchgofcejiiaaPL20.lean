import Derived.Test.YtbdchgofcejiiaaPL19
set_option linter.unusedVariables false
set_option linter.unusedSimpArgs false
namespace Go.Proofs.Ytbdchgofcejiiaa
open Go Go.Pg
theorem sumN_len {α : Type} (n : α → Nat) (xs : List α) : xs.length ≤ sumN n xs := by unfold sumN; omega
theorem sumN_mem {α : Type} (n : α → Nat) {xs : List α} {x : α} (h : x ∈ xs) : n x ≤ sumN n xs := by
  have : n x ≤ (xs.map n).sum := by
    induction xs with
    | nil => cases h
    | cons y t ih =>
      rcases List.mem_cons.1 h with rfl | h
      · simp
      · have := ih h; simp; omega
  unfold sumN; omega
theorem sm_of_n {l : Nest} (h : nNest l ≤ 1048576) : Sm l := by
  unfold nNest at h
  have f1 := sumN_len nFix l.Fixed
  have k1 := sumN_len nKer l.Kernels
  have fk : ∀ f ∈ l.Fixed, f.Data.length ≤ 1048576 := fun f hf => by
    have := sumN_mem nFix hf
    unfold nFix at this
    have : f.Data.length ≤ sumN nFix l.Fixed := this
    omega
  have kk : ∀ k ∈ l.Kernels, nKer k ≤ 1048576 := fun k hk => by
    have := sumN_mem nKer hk
    omega
  refine ⟨by omega, by omega, by omega, by omega, by omega, fk, fun k hk => ?_, fun k hk => ?_, fun k hk a ha => ?_, fun k hk => ?_, fun k hk => ?_⟩
  · have := kk k hk; unfold nKer at this; omega
  · have := kk k hk; have := sumN_len nAcc k.Loads; unfold nKer at *; omega
  · have := kk k hk; have h2 := sumN_mem nAcc ha; unfold nKer at *; have h3 : a.Steps.length ≤ sumN nAcc k.Loads := h2; omega
  · have := kk k hk; unfold nKer nAcc at this; omega
  · have := kk k hk; unfold nKer at this; omega
theorem law_true (aL : Nest) (hc : CapN aL) : laws_FnExactFuse aL = some true := by
  unfold laws_FnExactFuse
  rw [szNest_eq hc (by decide) (by decide), bind_some']
  by_cases hn : szR (nNest aL) 1048576 < 0
  · rw [if_pos (by simpa using hn)]
  rw [if_neg (by simpa using hn)]
  have hle : nNest aL ≤ 1048576 := by
    unfold szR at hn
    split at hn <;> rename_i q
    · exact absurd (by decide) hn
    · omega
  have hs := sm_of_n hle
  obtain ⟨r, e1, e2, hr⟩ := fuse_eq aL hs
  obtain ⟨m1, x1, f1, _⟩ := markN_eq aL hs
  obtain ⟨m2, x2, f2, f3⟩ := markN_eq r hr
  rw [toNest_eq aL hs, bind_some', e1, bind_some', bind_some', e2, bind_some', eqNest_rfl r hr, bind_some']
  simp only [Bool.not_true, Bool.false_eq_true, if_false]
  rw [bind_some', eqNest_rfl aL hs, bind_some']
  simp only [Bool.not_true, Bool.false_eq_true, if_false]
  rw [f1, bind_some', nonneg_]
  simp only [Bool.not_false, gc_t, bind_some', Bool.not_true, Bool.or_self, Bool.false_eq_true, if_false]
  rw [f2, bind_some']
  simp only []
  rw [f3, bind_some', nonneg_, bind_some', e2, bind_some', eqNest_rfl r hr, bind_some']
  simp only [bind_some', nonneg_, bne_self_i, Bool.not_true, Bool.false_eq_true, if_false]
end Go.Proofs.Ytbdchgofcejiiaa
