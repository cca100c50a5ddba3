import Derived.Test.YtbdchgofcejiiaaPL17
set_option linter.unusedVariables false
set_option linter.unusedSimpArgs false
namespace Go.Proofs.Ytbdchgofcejiiaa
open Go Go.Pg
/-! ### A thing is like itself -/
theorem eqI_rfl (xs : List Int) (h : xs.length ≤ 1048576) : laws_eqIntS xs xs = some true := by
  rw [eqIntS_same, same_eq _ _ (by unfold big; omega)]; simp
theorem eqL_rfl {α : Type} [Inhabited α] (xs : List α) (f : Int → Option (Int ⊕ (Bool ⊕ Unit))) (hl : xs.length ≤ 1048576) (e : α → α → Option Bool) (he : ∀ x ∈ xs, e x x = some true)
    (hf : ∀ i, f i = if (decide (i < (xs.length : Int))) = true then (if (0 ≤ i ∧ i < (xs.length : Int)) then if (0 ≤ i ∧ i < (xs.length : Int)) then (e (ix xs i) (ix xs i)).bind fun (r : Bool) => if (!r) = true then (some (.inr (.inl false))) else (some (.inl (w64 (i + (1 : Int))))) else none else none) else (some (.inr (.inr ())))) :
    loopM f 0 = some (.inr ()) := by
  rw [loop_all xs f (fun i => i) (fun _ => true) (.inl false) (.inr ()) (fun k hk => by
    rw [hf, if_pos (lt_ hk), if_pos (inr_ hk), if_pos (inr_ hk), he _ (ix_mem hk), bind_some', w64k (by unfold big; omega)]; rfl) (by rw [hf]; simp only [nlt_, Bool.false_eq_true, if_false])]
  simp
theorem bne_self_i (x : Int) : (x != x) = false := by simp
theorem eqFix_rfl (x : Fix) (h : x.Data.length ≤ 1048576) : laws_eqFix x x = some true := by
  unfold laws_eqFix; rw [bne_self_i, eqI_rfl _ h]; rfl
theorem eqFixS_rfl (xs : List Fix) (hl : xs.length ≤ 1048576) (h : ∀ x ∈ xs, x.Data.length ≤ 1048576) : laws_eqFixS xs xs = some true := by
  unfold laws_eqFixS
  rw [bne_self_i, eqL_rfl xs (fun s : Int => laws_eqFixS_L1 xs xs s) hl laws_eqFix (fun x hx => eqFix_rfl x (h x hx)) (fun _ => rfl)]; rfl
theorem eqAcc_rfl (x : Access) (h : x.Steps.length ≤ 1048576) : laws_eqAccess x x = some true := by
  unfold laws_eqAccess; rw [bne_self_i, bne_self_i, eqI_rfl _ h]; rfl
theorem eqAccS_rfl (xs : List Access) (hl : xs.length ≤ 1048576) (h : ∀ x ∈ xs, x.Steps.length ≤ 1048576) : laws_eqAccessS xs xs = some true := by
  unfold laws_eqAccessS
  rw [bne_self_i, eqL_rfl xs (fun s : Int => laws_eqAccessS_L1 xs xs s) hl laws_eqAccess (fun x hx => eqAcc_rfl x (h x hx)) (fun _ => rfl)]; rfl
theorem eqCalc_rfl (x : Calc) : laws_eqCalc x x = some true := by
  unfold laws_eqCalc; rw [bne_self_i, bne_self_i, bne_self_i]; rfl
theorem eqCalcS_rfl (xs : List Calc) (hl : xs.length ≤ 1048576) : laws_eqCalcS xs xs = some true := by
  unfold laws_eqCalcS
  rw [bne_self_i, eqL_rfl xs (fun s : Int => laws_eqCalcS_L1 xs xs s) hl laws_eqCalc (fun x hx => eqCalc_rfl x) (fun _ => rfl)]; rfl
theorem eqKer_rfl (x : Kernel) (h : SmK x) : laws_eqKernel x x = some true := by
  unfold laws_eqKernel
  rw [eqI_rfl _ h.loops, bind_some', eqAccS_rfl _ h.loads h.steps, bind_some', eqAcc_rfl _ h.store, bind_some', eqCalcS_rfl _ h.code, bind_some']
  simp
theorem eqKerS_rfl (xs : List Kernel) (hl : xs.length ≤ 1048576) (h : ∀ x ∈ xs, SmK x) : laws_eqKernelS xs xs = some true := by
  unfold laws_eqKernelS
  rw [bne_self_i, eqL_rfl xs (fun s : Int => laws_eqKernelS_L1 xs xs s) hl laws_eqKernel (fun x hx => eqKer_rfl x (h x hx)) (fun _ => rfl)]; rfl
theorem eqNest_rfl (l : Nest) (h : Sm l) : laws_eqNest l l = some true := by
  unfold laws_eqNest
  rw [eqI_rfl _ h.sizes, bind_some', eqI_rfl _ h.ins, bind_some', eqFixS_rfl _ h.fixed h.data, bind_some', eqKerS_rfl _ h.kers (fun k hk => h.ker hk), bind_some', eqI_rfl _ h.outs]; rfl
/-! ### Marks -/
def BB : Nat := 4611686018427387904
theorem ix_set {α : Type} [Inhabited α] {ys : List α} {k : Nat} {v : α} (h : k < ys.length) : ix (ys.set k v) (k : Int) = v := by
  rw [ix_at (by simpa using h)]; simp
theorem ix_set_ne {α : Type} [Inhabited α] {ys : List α} {k j : Nat} {v : α} (h : k ≠ j) : ix (ys.set k v) (j : Int) = ix ys (j : Int) := by
  simp [ix, List.getD_eq_getElem?_getD, List.getElem?_set, h]
def cnt {α : Type} (n : α → Nat) (xs : List α) : Nat := (xs.map n).sum
theorem cnt_cons {α : Type} (n : α → Nat) (x : α) (t : List α) : cnt n (x :: t) = n x + cnt n t := by simp [cnt]
theorem cnt_drop {α : Type} (n : α → Nat) {xs : List α} {k : Nat} (h : k < xs.length) : cnt n (xs.drop k) = n xs[k] + cnt n (xs.drop (k + 1)) := by
  rw [List.drop_eq_getElem_cons h, cnt_cons]
/-- The marking of a list and its being held. -/
theorem mark_loop {α T U : Type} [Inhabited α] (xs : List α) (n : α → Nat) (g : α → Nat → α) (f : T → Option (T ⊕ (Int × List α))) (mk : List α → Int → Int → T)
    (hf : ∀ (ys : List α) (k i : Nat), i < xs.length → ys.length = xs.length → ix ys (i : Int) = ix xs (i : Int) → k + n (ix xs (i : Int)) ≤ BB → f (mk ys (k : Int) (i : Int)) = some (.inl (mk (ys.set i (g (ix xs (i : Int)) k)) ((k + n (ix xs (i : Int)) : Nat) : Int) ((i + 1 : Nat) : Int))))
    (he : ∀ ys k, f (mk ys k (xs.length : Int)) = some (.inr (k, ys))) (k : Nat) (hk : k + cnt n xs ≤ BB) :
    ∃ ys, loopM f (mk xs (k : Int) 0) = some (((k + cnt n xs : Nat) : Int), ys) ∧ ys.length = xs.length ∧
      ∀ (f2 : U → Option (U ⊕ (Int ⊕ Int))) (mk2 : Int → Int → U), (∀ (k i : Nat), i < xs.length → k + n (ix xs (i : Int)) ≤ BB → ix ys (i : Int) = g (ix xs (i : Int)) k → f2 (mk2 (k : Int) (i : Int)) = some (.inl (mk2 ((k + n (ix xs (i : Int)) : Nat) : Int) ((i + 1 : Nat) : Int)))) →
        (∀ k, f2 (mk2 k (xs.length : Int)) = some (.inr (.inr k))) → loopM f2 (mk2 (k : Int) 0) = some (.inr ((k + cnt n xs : Nat) : Int)) := by
  have key : ∀ (m i k : Nat) (ys : List α), i + m = xs.length → ys.length = xs.length → (∀ j, i ≤ j → j < xs.length → ix ys (j : Int) = ix xs (j : Int)) → k + cnt n (xs.drop i) ≤ BB →
      ∃ zs, loopM f (mk ys (k : Int) (i : Int)) = some (((k + cnt n (xs.drop i) : Nat) : Int), zs) ∧ zs.length = xs.length ∧ (∀ j, j < i → ix zs (j : Int) = ix ys (j : Int)) ∧
        ∀ (f2 : U → Option (U ⊕ (Int ⊕ Int))) (mk2 : Int → Int → U), (∀ (k j : Nat), i ≤ j → j < xs.length → k + n (ix xs (j : Int)) ≤ BB → ix zs (j : Int) = g (ix xs (j : Int)) k → f2 (mk2 (k : Int) (j : Int)) = some (.inl (mk2 ((k + n (ix xs (j : Int)) : Nat) : Int) ((j + 1 : Nat) : Int)))) →
          (∀ k, f2 (mk2 k (xs.length : Int)) = some (.inr (.inr k))) → loopM f2 (mk2 (k : Int) (i : Int)) = some (.inr ((k + cnt n (xs.drop i) : Nat) : Int)) := by
    intro m
    induction m with
    | zero =>
      intro i k ys hi hl _ _
      have hi : i = xs.length := by omega
      subst hi
      rw [List.drop_length]
      exact ⟨ys, loopM_end (he ys k), hl, fun j _ => rfl, fun f2 mk2 _ h2 => loopM_end (h2 k)⟩
    | succ m ih =>
      intro i k ys hi hl hx hb
      have hlt : i < xs.length := by omega
      have hc := cnt_drop n hlt
      rw [← ix_at hlt] at hc
      have hf' := hf ys k i hlt hl (hx i (Nat.le_refl _) hlt) (by omega)
      obtain ⟨zs, z1, z2, z3, z4⟩ := ih (i + 1) (k + n (ix xs (i : Int))) (ys.set i (g (ix xs (i : Int)) k)) (by omega) (by simpa using hl) (fun j h1 h2 => by
        rw [ix_set_ne (by omega)]; exact hx j (by omega) h2) (by omega)
      have hsum : k + n (ix xs (i : Int)) + cnt n (xs.drop (i + 1)) = k + cnt n (xs.drop i) := by omega
      rw [hsum] at z1 z4
      refine ⟨zs, by rw [loopM_next hf']; exact z1, z2, fun j hj => ?_, fun f2 mk2 h1 h2 => ?_⟩
      · rw [z3 j (by omega), ix_set_ne (by omega)]
      · have hz : ix zs (i : Int) = g (ix xs (i : Int)) k := by rw [z3 i (by omega), ix_set (by omega)]
        rw [loopM_next (h1 k i (Nat.le_refl _) hlt (by omega) hz)]
        exact z4 f2 mk2 (fun k j h3 => h1 k j (by omega)) h2
  obtain ⟨ys, y1, y2, _, y4⟩ := key xs.length 0 k xs (by omega) rfl (fun _ _ _ => rfl) (by simpa using hk)
  rw [List.drop_zero] at y1 y4
  exact ⟨ys, y1, y2, fun f2 mk2 h1 h2 => y4 f2 mk2 (fun k j _ => h1 k j) h2⟩
theorem wn {k : Nat} (h : k + 1 ≤ BB) : w64 ((k : Int) + 1) = ((k + 1 : Nat) : Int) := by
  unfold BB at h; rw [w64_id (by omega) (by omega)]; omega
end Go.Proofs.Ytbdchgofcejiiaa
