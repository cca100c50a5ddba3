import Derived.Test.YthfhllekobdelaaGreatDoorPgF
set_option linter.unusedVariables false
namespace Go.Pg
def cP : Nat := 4611686018427387904
theorem cR {k : Nat} (h : k < cP) : aG ((k : Int) + 1) = ((k + 1 : Nat) : Int) := by
  unfold cP at h; rw [aX (by omega) (by omega)]; omega
def px {S R α : Type} (a : S → Nat → α → S ⊕ R) (b : S → R) : List α → Nat → S → R
  | [], _, s => b s
  | x :: xs, k, s => match a s k x with
    | .inl s' => px a b xs (k + 1) s'
    | .inr r => r
theorem cB {α : Type} [Inhabited α] {xs : List α} {k : Nat} (h : k < xs.length) : ix xs (k : Int) = xs[k] := by
  simp [ix, List.getD_eq_getElem?_getD, h]
theorem bJ {α : Type} [Inhabited α] {xs : List α} {k : Nat} (h : k < xs.length) : ix xs (k : Int) ∈ xs := by rw [cB h]; exact List.getElem_mem h
theorem iK {S R T α : Type} [Inhabited α] (xs : List α) (I : Nat → S → Prop) (f : T → Option (T ⊕ R)) (mk : S → Int → T) (a : S → Nat → α → S ⊕ R) (e : S → R)
    (h1 : ∀ s k, I k s → k < xs.length → f (mk s (k : Int)) = some (match a s k (ix xs (k : Int)) with | .inl s' => .inl (mk s' ((k + 1 : Nat) : Int)) | .inr r => .inr r))
    (j : ∀ s k s', I k s → k < xs.length → a s k (ix xs (k : Int)) = .inl s' → I (k + 1) s')
    (h2 : ∀ s, I xs.length s → f (mk s (xs.length : Int)) = some (.inr (e s))) (s : S) (u : I 0 s) : bC f (mk s 0) = some (px a e xs 0 s) := by
  have q : ∀ (m k : Nat) (s : S), k + m = xs.length → I k s → bC f (mk s (k : Int)) = some (px a e (xs.drop k) k s) := by
    intro m
    induction m with
    | zero =>
      intro k s i g
      have i : k = xs.length := by omega
      subst i
      rw [eD (h2 s g), List.drop_length]
      rfl
    | succ m ih =>
      intro k s i g
      have b : k < xs.length := by omega
      have h := h1 s k g b
      rw [List.drop_eq_getElem_cons b, ← cB b]
      unfold px
      cases hs : a s k (ix xs (k : Int)) with
      | inl s' =>
        rw [hs] at h
        rw [eV h]
        exact ih (k + 1) s' (by omega) (j s k s' g b hs)
      | inr r =>
        rw [hs] at h
        rw [eD h]
  have := q xs.length 0 s (by omega) u
  simpa using this
theorem eP {R T α : Type} [Inhabited α] (xs : List α) (f : T → Option (T ⊕ R)) (mk : Int → T) (p : α → Bool) (a b : R)
    (h1 : ∀ k : Nat, k < xs.length → f (mk (k : Int)) = some (if p (ix xs (k : Int)) then .inl (mk ((k + 1 : Nat) : Int)) else .inr a))
    (h2 : f (mk (xs.length : Int)) = some (.inr b)) : bC f (mk 0) = some (if xs.all p then b else a) := by
  have := iK (S := Unit) xs (fun _ _ => True) f (fun _ i => mk i) (fun _ _ x => if p x then .inl () else .inr a) (fun _ => b) (fun _ k _ e => by
    rw [h1 k e]; split <;> rfl) (fun _ _ _ _ _ _ => trivial) (fun _ _ => h2) () trivial
  rw [this]
  congr 1
  generalize 0 = k
  clear this h1 h2
  induction xs generalizing k with
  | nil => rfl
  | cons x xs ih =>
    unfold px
    by_cases hp : p x
    · simp only [hp, if_true, List.all_cons, Bool.true_and]; exact ih (k + 1)
    · simp [hp]
theorem ky {R T : Type} (n : Nat) (f : T → Option (T ⊕ R)) (mk : Int → T) (p : Nat → Bool) (b e : R)
    (h1 : ∀ k : Nat, k < n → f (mk (k : Int)) = some (if p k then .inl (mk ((k + 1 : Nat) : Int)) else .inr b))
    (h2 : f (mk (n : Int)) = some (.inr e)) : bC f (mk 0) = some (if (List.range n).all p then e else b) := by
  refine eP (List.range n) f mk p b e (fun k a => ?_) (by simpa using h2)
  rw [cB a]
  simp only [List.length_range] at a
  rw [h1 k a]; simp
end Go.Pg
