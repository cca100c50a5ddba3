import Derived.Test.YthfhllekobdelaaGreatDoorVP
set_option linter.unusedVariables false
set_option linter.unusedSimpArgs false
namespace Go.Proofs.YthfhllekobdelaaGreatDoor
open Go Go.Pg
def AT (a : List (List Int)) (is : List Int) : List Int := a.map fun ss => zs (· * ·) is ss
theorem gw (a : List (List Int)) (is : List Int) : (AT a is).length = a.length := by simp [AT]
theorem qc {a : List (List Int)} {is : List Int} {k : Nat} (h : k < a.length) : ix (AT a is) (k : Int) = zs (· * ·) is (ix a (k : Int)) := by
  rw [cB (by rw [gw]; exact h), cB h]; simp [AT]
def SB (ds ss : List Int) : Prop := ss.length = ds.length ∧ ∀ x ∈ ss, 0 ≤ x ∧ x ≤ 24576
structure FO (f : form) : Prop where
  d : ∀ x ∈ f.loops, 1 ≤ x
  p : pr f.loops ≤ 65536
  l : f.loops.length ≤ 42
  t : SB f.loops f.store
  s : ∀ ss ∈ f.steps, SB f.loops ss
  k : f.steps.length ≤ 6
theorem sS {xs ys : List Int} {k : Nat} (h : k ≤ xs.length) (h2 : k < ys.length) : ix (xs.take k ++ ys.drop k) (k : Int) = ix ys (k : Int) := by
  have a : (xs.take k).length = k := by rw [List.length_take]; omega
  rw [cB (by rw [List.length_append, a, List.length_drop]; omega), cB h2, List.getElem_append_right (by omega)]
  simp only [a, Nat.sub_self, List.getElem_drop, Nat.add_zero]
theorem uh {ds : List Int} (h : ∀ x ∈ ds, 1 ≤ x) {j : Nat} (b : j < ds.length) : ix ds (j : Int) ≤ pr ds := by
  induction ds generalizing j with
  | nil => simp at b
  | cons d ds ih =>
    have g : 1 ≤ pr ds := dJ fun x a => h x (by simp [a])
    have e := h d (by simp)
    cases j with
    | zero =>
      have : d * 1 ≤ d * pr ds := Int.mul_le_mul_of_nonneg_left g (by omega)
      show d ≤ d * pr ds
      omega
    | succ j =>
      have h1 := ih (fun x a => h x (by simp [a])) (j := j) (by simpa using b)
      rw [eK]
      have : 1 * pr ds ≤ d * pr ds := Int.mul_le_mul_of_nonneg_right e (by omega)
      show ix ds (j : Int) ≤ d * pr ds
      omega
theorem iR {ds is ss : List Int} (h : IV ds is) (q : ∀ j : Nat, j < ds.length → ix ds (j : Int) ≤ 65536) (F : ds.length ≤ 42) (u : SB ds ss) : 0 ≤ zs (· * ·) is ss ∧ zs (· * ·) is ss ≤ 1610612736 * 42 := by
  induction ds generalizing is ss with
  | nil => cases is with
    | nil => cases ss <;> simp [zs]
    | cons => exact h.elim
  | cons d ds ih => cases is with
    | nil => exact h.elim
    | cons i is => cases ss with
      | nil => simp [zs]
      | cons s ss =>
        suffices hh : ∀ (ds is ss : List Int), IV ds is → (∀ j : Nat, j < ds.length → ix ds (j : Int) ≤ 65536) → SB ds ss → 0 ≤ zs (· * ·) is ss ∧ zs (· * ·) is ss ≤ 1610612736 * (ds.length : Int) by
          have := hh _ _ _ h q u
          omega
        intro ds
        induction ds with
        | nil => intro is ss h1 _ _; cases is with
          | nil => cases ss <;> simp [zs]
          | cons => exact h1.elim
        | cons d ds ih => intro is ss h1 h2 g; cases is with
          | nil => exact h1.elim
          | cons i is => cases ss with
            | nil => simp [zs]; omega
            | cons s ss =>
              have a := ih is ss h1.2 (fun j m => by have := h2 (j + 1) (by simpa using m); rwa [eK] at this) ⟨by have := g.1; simpa using this, fun x D => g.2 x (by simp [D])⟩
              have b := g.2 s (by simp)
              have c := h1.1
              have e := h2 0 (by simp)
              have E : d ≤ 65536 := e
              have G : 0 ≤ i * s := Int.mul_nonneg c.1 b.1
              have I : i * s ≤ 65536 * 24576 := Int.mul_le_mul (by omega) b.2 b.1 (by omega)
              simp only [zs, List.length_cons]
              omega
variable {f : form}
theorem FO.dl (h : FO f) {j : Nat} (a : j < f.loops.length) : ix f.loops (j : Int) ≤ 65536 := Int.le_trans (uh h.d a) h.p
theorem rQ (h : FO f) {b : List Int} {p : Nat} (G : p < f.loops.length) (E : IV f.loops b) {a : Int} (I : IV f.loops (b.set p a)) :
    bC (fun s : List Int × Int => Z7_L3 f (p : Int) (a - ix b (p : Int)) s.1 s.2) (AT f.steps b, 0) = some (AT f.steps (b.set p a)) := by
  have L := E.len
  have hk := h.k
  have J : ∀ k : Nat, k ≤ f.steps.length → (AT f.steps (b.set p a)).take k ++ (AT f.steps b).drop k = (AT f.steps (b.set p a)).take k ++ (AT f.steps b).drop k := fun _ _ => rfl
  rw [dN (f := fun s : List Int × Int => Z7_L3 f (p : Int) (a - ix b (p : Int)) s.1 s.2) (r := AT f.steps (b.set p a)) (fun k => ((AT f.steps (b.set p a)).take k ++ (AT f.steps b).drop k, (k : Int))) f.steps.length (fun k i => by
    have g := h.s _ (bJ i)
    have b1 := iR E (fun j F => h.dl F) h.l g
    have b2 := iR I (fun j F => h.dl F) h.l g
    have U := l8 (· * ·) (xs := b) (ys := ix f.steps (k : Int)) (j := p) (a := a) (by omega) (by rw [g.1]; exact G)
    have m := g.2 _ (bJ (xs := ix f.steps (k : Int)) (k := p) (by rw [g.1]; exact G))
    have T := E.mem (j := p) (by omega)
    have u := I.mem (j := p) (by rw [List.length_set]; omega)
    rw [fJ (by omega)] at u
    have M := h.dl G
    have q : ix ((AT f.steps (b.set p a)).take k ++ (AT f.steps b).drop k) (k : Int) = zs (· * ·) b (ix f.steps (k : Int)) := by
      rw [sS (by rw [gw]; omega) (by rw [gw]; exact i), qc i]
    have D : (a - ix b (p : Int)) * ix (ix f.steps (k : Int)) (p : Int) = a * ix (ix f.steps (k : Int)) (p : Int) - ix b (p : Int) * ix (ix f.steps (k : Int)) (p : Int) := Int.sub_mul _ _ _
    have m1 : 0 ≤ a * ix (ix f.steps (k : Int)) (p : Int) ∧ a * ix (ix f.steps (k : Int)) (p : Int) ≤ 65536 * 24576 := ⟨Int.mul_nonneg u.1 m.1, Int.mul_le_mul (by omega) m.2 m.1 (by omega)⟩
    have m2 : 0 ≤ ix b (p : Int) * ix (ix f.steps (k : Int)) (p : Int) ∧ ix b (p : Int) * ix (ix f.steps (k : Int)) (p : Int) ≤ 65536 * 24576 := ⟨Int.mul_nonneg T.1 m.1, Int.mul_le_mul (by omega) m.2 m.1 (by omega)⟩
    simp only [Z7_L3]
    rw [if_pos (by simp; omega), if_pos (by simp; omega), if_pos (by omega), if_pos (by rw [g.1]; omega), q, D, aX (n := a * _ - _) (by omega) (by omega), nm, Option.bind_some, cR (by unfold cP; omega), Int.toNat_natCast]
    congr 3
    have e : aG (zs (· * ·) b (ix f.steps (k : Int)) + (a * ix (ix f.steps (k : Int)) (p : Int) - ix b (p : Int) * ix (ix f.steps (k : Int)) (p : Int))) = ix (AT f.steps (b.set p a)) (k : Int) := by
      rw [qc i, aX (by omega) (by omega), U]; omega
    rw [e]
    exact mQ (by rw [gw, gw]) (by rw [gw]; exact i)) (by
    simp only [Z7_L3]
    rw [if_neg (by simp), List.take_of_length_le (by rw [gw]; exact Nat.le_refl _), List.drop_of_length_le (by rw [gw]; exact Nat.le_refl _), List.append_nil]) (s := (AT f.steps b, 0)) (by simp)]
variable {f : form}
theorem uj {ds : List Int} : ∀ {is : List Int}, IV ds is → (∀ d ∈ ds, 1 ≤ d) → ∀ {p : Nat} {a : Int}, p < ds.length → 0 ≤ a → a < ix ds (p : Int) → IV ds (is.take p ++ a :: fC (ds.length - (p + 1))) := by
  induction ds with
  | nil => intro is _ _ p a e; simp at e
  | cons d ds ihd =>
    intro is h b p a e j h1
    cases is with
    | nil => exact h.elim
    | cons i is =>
      cases p with
      | zero =>
        refine ⟨⟨j, h1⟩, ?_⟩
        have m : ∀ ds : List Int, (∀ d ∈ ds, 1 ≤ d) → IV ds (fC ds.length) := by
          intro ds
          induction ds with
          | nil => intro _; trivial
          | cons d ds ihz => intro e; exact ⟨⟨Int.le_refl 0, by have := e d (by simp); omega⟩, ihz fun x g => e x (by simp [g])⟩
        exact m ds fun x g => b x (by simp [g])
      | succ p =>
        rw [eK] at h1
        have := ihd (is := is) h.2 (fun x g => b x (by simp [g])) (p := p) (a := a) (by simpa using e) j h1
        refine ⟨h.1, ?_⟩
        simpa using this
noncomputable abbrev rR (f : form) (V : List Int) : (List Int × List Int × Int × Int) → Option (((List Int) × (List Int) × Int × Int) ⊕ (((List Int) × (List Int) × (List Int) × Int) ⊕ (Unit))) := fun s => Z7_L2 f V s.1 s.2.1 s.2.2.1 s.2.2.2
theorem qd (h : FO f) {V b : List Int} {p : Nat} (I : p < f.loops.length) (G : IV f.loops b) :
    (ix b (p : Int) + 1 < ix f.loops (p : Int) → IV f.loops (b.set p (ix b (p : Int) + 1)) → rR f V (AT f.steps b, b, zs (· * ·) b f.store, (p : Int)) = some (.inr (.inl (V, AT f.steps (b.set p (ix b (p : Int) + 1)), b.set p (ix b (p : Int) + 1), zs (· * ·) (b.set p (ix b (p : Int) + 1)) f.store)))) ∧
    (¬ ix b (p : Int) + 1 < ix f.loops (p : Int) → IV f.loops (b.set p 0) → rR f V (AT f.steps b, b, zs (· * ·) b f.store, (p : Int)) = some (.inl (AT f.steps (b.set p 0), b.set p 0, zs (· * ·) (b.set p 0) f.store, (p : Int) - 1))) := by
  have T := G.len
  have hl := h.l
  have hm := G.mem (j := p) (by omega)
  have U := h.dl I
  have m := h.t
  have q := m.2 _ (bJ (xs := f.store) (k := p) (by rw [m.1]; exact I))
  have hz := fun a => l8 (· * ·) (xs := b) (ys := f.store) (j := p) (a := a) (by omega) (by rw [m.1]; exact I)
  have b1 := iR G (fun j J => h.dl J) h.l m
  -- what J8 and J9 do at a new number
  have E : ∀ a e : Int, e = a - ix b (p : Int) → IV f.loops (b.set p a) → Z7_J8 f V (AT f.steps b) b (zs (· * ·) b f.store) (p : Int) e = Z7_J9 f V b (zs (· * ·) b f.store) (p : Int) e (AT f.steps (b.set p a)) := by
    intro a e F g
    unfold Z7_J8
    rw [if_pos (by omega), if_pos (by rw [m.1]; omega), F, rQ h I G g]
    rfl
  have i : ∀ a e : Int, e = a - ix b (p : Int) → IV f.loops (b.set p a) → Z7_J9 f V b (zs (· * ·) b f.store) (p : Int) e (AT f.steps (b.set p a)) = if (e == 1) = true then some (.inr (.inl (V, AT f.steps (b.set p a), b.set p a, zs (· * ·) (b.set p a) f.store))) else some (.inl (AT f.steps (b.set p a), b.set p a, zs (· * ·) (b.set p a) f.store, (p : Int) - 1)) := by
    intro a e F g
    have u := g.mem (j := p) (by rw [List.length_set]; omega)
    rw [fJ (by omega)] at u
    have b2 := iR g (fun j J => h.dl J) h.l m
    have D : e * ix f.store (p : Int) = a * ix f.store (p : Int) - ix b (p : Int) * ix f.store (p : Int) := by rw [F, Int.sub_mul]
    have m1 : 0 ≤ a * ix f.store (p : Int) ∧ a * ix f.store (p : Int) ≤ 65536 * 24576 := ⟨Int.mul_nonneg u.1 q.1, Int.mul_le_mul (by omega) q.2 q.1 (by omega)⟩
    have m2 : 0 ≤ ix b (p : Int) * ix f.store (p : Int) ∧ ix b (p : Int) * ix f.store (p : Int) ≤ 65536 * 24576 := ⟨Int.mul_nonneg hm.1 q.1, Int.mul_le_mul (by omega) q.2 q.1 (by omega)⟩
    have L : aG (ix b (p : Int) + e) = a := by rw [F, aX (by omega) (by omega)]; omega
    have M : aG (zs (· * ·) b f.store + aG (e * ix f.store (p : Int))) = zs (· * ·) (b.set p a) f.store := by
      rw [D, aX (n := _ - _) (by omega) (by omega), hz a, aX (by omega) (by omega)]; omega
    unfold Z7_J9
    rw [L, M, Int.toNat_natCast, aX (n := (p : Int) - 1) (by omega) (by omega)]
  refine ⟨fun c g => ?_, fun c g => ?_⟩
  · simp only [rR, Z7_L2]
    rw [if_pos (by simp), if_pos (by omega), if_pos (by omega), aX (n := ix b (p : Int) + 1) (by omega) (by omega), if_neg (by simp; omega), E (ix b (p : Int) + 1) 1 (by omega) g, i (ix b (p : Int) + 1) 1 (by omega) g, if_pos (by simp)]
  · simp only [rR, Z7_L2]
    rw [if_pos (by simp), if_pos (by omega), if_pos (by omega), aX (n := ix b (p : Int) + 1) (by omega) (by omega), if_pos (by simp; omega), aX (n := 0 - ix b (p : Int)) (by omega) (by omega), E 0 (0 - ix b (p : Int)) (by omega) g, i 0 (0 - ix b (p : Int)) (by omega) g, if_neg (by simp; omega)]
theorem nM (h : FO f) {V is : List Int} (I : IV f.loops is) : ∀ p, p ≤ f.loops.length →
    (∀ q, kt (f.loops.take p) (is.take p) = some q → bC (rR f V) (AT f.steps (is.take p ++ fC (f.loops.length - p)), is.take p ++ fC (f.loops.length - p), zs (· * ·) (is.take p ++ fC (f.loops.length - p)) f.store, (p : Int) - 1) = some (.inl (V, AT f.steps (q ++ fC (f.loops.length - p)), q ++ fC (f.loops.length - p), zs (· * ·) (q ++ fC (f.loops.length - p)) f.store))) ∧
    (kt (f.loops.take p) (is.take p) = none → bC (rR f V) (AT f.steps (is.take p ++ fC (f.loops.length - p)), is.take p ++ fC (f.loops.length - p), zs (· * ·) (is.take p ++ fC (f.loops.length - p)) f.store, (p : Int) - 1) = some (.inr ())) := by
  intro p
  have a1 := I.len
  induction p with
  | zero =>
    intro _
    refine ⟨fun q i => by simp [kt] at i, fun _ => eD ?_⟩
    simp only [rR, Z7_L2]
    rw [if_neg (by simp)]
  | succ p ih =>
    intro hp
    obtain ⟨L, M⟩ := ih (by omega)
    have hm := I.mem (j := p) (by omega)
    have T : is.take (p + 1) = is.take p ++ [ix is (p : Int)] := by rw [List.take_succ_eq_append_getElem (by omega), cB (by omega)]
    have td : f.loops.take (p + 1) = f.loops.take p ++ [ix f.loops (p : Int)] := by rw [List.take_succ_eq_append_getElem (by omega), cB (by omega)]
    have E : (is.take p).length = (f.loops.take p).length := by simp; omega
    have D := m6 E (ix f.loops (p : Int)) (ix is (p : Int))
    rw [← T, ← td] at D
    obtain ⟨b, g⟩ : ∃ b, b = is.take (p + 1) ++ fC (f.loops.length - (p + 1)) := ⟨_, rfl⟩
    have F : b.length = f.loops.length := by rw [g]; simp [fC]; omega
    have m : ∀ a : Int, b.set p a = is.take p ++ a :: fC (f.loops.length - (p + 1)) := by
      intro a
      rw [g, T, List.append_assoc, List.set_append_right _ _ (by simp; omega)]
      have : p - (is.take p).length = 0 := by simp; omega
      rw [this]
      rfl
    have G : ix b (p : Int) = ix is (p : Int) := by
      have J : p < b.length := by omega
      rw [cB J, cB (by omega)]
      subst g
      rw [List.getElem_append_left (by simp; omega)]
      simp
    have u : ∀ a : Int, 0 ≤ a → a < ix f.loops (p : Int) → IV f.loops (b.set p a) := fun a h0 h1 => by rw [m]; exact uj I h.d (by omega) h0 h1
    have hc : IV f.loops b := by
      have := u (ix is (p : Int)) hm.1 hm.2
      have e0 : b.set p (ix is (p : Int)) = b := by rw [m, g, T]; simp
      rwa [e0] at this
    have a0 := h.d _ (bJ (xs := f.loops) (k := p) (by omega))
    obtain ⟨U, F2⟩ := qd h (V := V) (p := p) (by omega) hc
    rw [G] at U F2
    have ep : ((p + 1 : Nat) - 1 : Int) = (p : Int) := by omega
    rw [← g, ep]
    by_cases c : ix is (p : Int) + 1 < ix f.loops (p : Int)
    · rw [if_pos c] at D
      refine ⟨fun q i => ?_, fun i => by rw [D] at i; cases i⟩
      rw [D] at i
      cases i
      rw [eD (U c (u _ (by omega) c)), m]
      simp
    · rw [if_neg c] at D
      have hF := F2 c (u 0 (by omega) (by omega))
      have e2 : b.set p 0 = is.take p ++ fC (f.loops.length - p) := by
        rw [m, show f.loops.length - p = (f.loops.length - (p + 1)) + 1 by omega]; rfl
      rw [e2] at hF
      rw [eV hF]
      refine ⟨fun q i => ?_, fun i => M (by rw [D] at i; simpa using i)⟩
      rw [D] at i
      cases e : kt (f.loops.take p) (is.take p) with
      | none => rw [e] at i; cases i
      | some q' =>
        rw [e] at i
        cases i
        rw [L q' e]
        have : fC (f.loops.length - p) = 0 :: fC (f.loops.length - (p + 1)) := by rw [show f.loops.length - p = (f.loops.length - (p + 1)) + 1 by omega]; rfl
        rw [this]
        simp
theorem qe (h : FO f) {ts : List Tensor} {t : Tensor} (I : Nat → List Int → Prop)
    (E : ∀ (k : Nat) y, (k : Int) < pr f.loops → I k y → ∃ a, Z04 (AT f.steps (dX f.loops (k : Int))) (zs (· * ·) (dX f.loops (k : Int)) f.store) ts ⟨t.Dims, y⟩ = some a ∧ I (k + 1) a) (J : I 0 t.Data) :
    ∃ a, Z7 f ts t = some a ∧ I (pr f.loops).toNat a := by
  have i := h.l
  have D := h.k
  have L : 1 ≤ pr f.loops := dJ h.d
  have M := h.p
  unfold Z7
  rw [if_pos (by omega), if_pos (by omega)]
  have q : ∀ m k y, k + 1 + m = (pr f.loops).toNat → I k y → ∃ a, bC (fun s : (List Int) × (List Int) × (List Int) × Int => Z7_L1 f ts t s.1 s.2.1 s.2.2.1 s.2.2.2) (y, AT f.steps (dX f.loops (k : Int)), dX f.loops (k : Int), zs (· * ·) (dX f.loops (k : Int)) f.store) = some a ∧ I (pr f.loops).toNat a := by
    intro m
    induction m with
    | zero =>
      intro k y D j
      obtain ⟨a, h1, h2⟩ := E k y (by omega) j
      obtain ⟨_, g⟩ := nM h (V := a) (f7 h.d (k : Int)) f.loops.length (Nat.le_refl _)
      rw [List.take_length, List.take_of_length_le (by rw [fE]; omega), Nat.sub_self] at g
      have e : kt f.loops (dX f.loops (k : Int)) = none := by
        rw [jD h.d, Int.emod_eq_of_lt (by omega) (by omega), if_neg (by omega)]
      have i := g e
      simp only [fC, List.replicate_zero, List.append_nil] at i
      refine ⟨a, eD ?_, by rw [show (pr f.loops).toNat = k + 1 by omega]; exact h2⟩
      simp only [Z7_L1, h1, Option.bind_some]
      rw [fE, aX (by omega) (by omega)]
      change (bC (rR f a) _).bind _ = _
      rw [i]
      rfl
    | succ m ih =>
      intro k y D j
      obtain ⟨a, h1, h2⟩ := E k y (by omega) j
      obtain ⟨g, _⟩ := nM h (V := a) (f7 h.d (k : Int)) f.loops.length (Nat.le_refl _)
      rw [List.take_length, List.take_of_length_le (by rw [fE]; omega), Nat.sub_self] at g
      have e : kt f.loops (dX f.loops (k : Int)) = some (dX f.loops ((k : Int) + 1)) := by
        rw [jD h.d, Int.emod_eq_of_lt (by omega) (by omega), if_pos (by omega)]
      have i := g _ e
      have F : (k : Int) + 1 = ((k + 1 : Nat) : Int) := by omega
      simp only [fC, List.replicate_zero, List.append_nil, F] at i
      have T := eV (f := fun s : (List Int) × (List Int) × (List Int) × Int => Z7_L1 f ts t s.1 s.2.1 s.2.2.1 s.2.2.2) (s := (y, AT f.steps (dX f.loops (k : Int)), dX f.loops (k : Int), zs (· * ·) (dX f.loops (k : Int)) f.store)) (s' := (a, AT f.steps (dX f.loops ((k + 1 : Nat) : Int)), dX f.loops ((k + 1 : Nat) : Int), zs (· * ·) (dX f.loops ((k + 1 : Nat) : Int)) f.store)) (by
        simp only [Z7_L1, h1, Option.bind_some]
        rw [fE, aX (by omega) (by omega)]
        change (bC (rR f a) _).bind _ = _
        rw [i]
        rfl)
      rw [T]
      exact ih (k + 1) a (by omega) h2
  obtain ⟨a, h1, h2⟩ := q ((pr f.loops).toNat - 1) 0 t.Data (by omega) J
  refine ⟨a, ?_, h2⟩
  have e : dX f.loops ((0 : Nat) : Int) = fC f.loops.length := kZ h.d (by simp)
  have u : ∀ (n : Nat) (ss : List Int), zs (· * ·) (fC n) ss = 0 := by
    intro n
    induction n with
    | zero => intro ss; simp [fC, zs]
    | succ n ihn => intro ss; cases ss with
      | nil => simp [fC, zs]
      | cons s ss => have := ihn ss; simp only [fC, List.replicate_succ, zs] at this ⊢; rw [this]; simp
  have G : ∀ n : Nat, AT f.steps (fC n) = List.replicate f.steps.length 0 := by
    intro n
    unfold AT
    rw [List.eq_replicate_iff]
    refine ⟨by simp, fun b g => ?_⟩
    obtain ⟨ss, _, rfl⟩ := List.mem_map.1 g
    exact u _ _
  rw [e, u, G] at h1
  rw [Int.toNat_natCast, Int.toNat_natCast]
  rw [show List.replicate f.loops.length (0 : Int) = fC f.loops.length from rfl, h1]
  rfl
def gB (g : aO) : List Int := g.map fun c => (c.toNat : Int)
theorem ir (g : aO) : (gB g).length = g.length := by simp [gB]
theorem sT {g : aO} {k : Nat} (h : k < g.length) : ix (gB g) (k : Int) = bt g (k : Int) := by
  unfold bt
  rw [cB (by rw [ir]; exact h), cB h]
  simp [gB]
def kg (c : Int) (x y : Int) : Int := if x = c then y else 0
def j6 (g o : aO) (p : List Int) : List Int := (gB o).map fun c => zs (kg c) (gB g) p
theorem hX (g o : aO) (p : List Int) : (j6 g o p).length = o.length := by simp [j6, gB]
theorem uk {g o : aO} {p : List Int} {j : Nat} (h : j < o.length) : ix (j6 g o p) (j : Int) = zs (kg (bt o (j : Int))) (gB g) p := by
  rw [cB (by rw [hX]; exact h), ← sT h, cB (by rw [ir]; exact h)]
  simp [j6]
theorem qf (c : Int) : ∀ {xs ys : List Int}, (∀ y ∈ ys, 0 ≤ y ∧ y ≤ 4096) → 0 ≤ zs (kg c) xs ys ∧ zs (kg c) xs ys ≤ 4096 * (xs.length : Int)
  | [], ys, _ => by simp [zs]
  | x :: xs, [], _ => by simp [zs]; omega
  | x :: xs, y :: ys, h => by
    have h1 := qf c (xs := xs) (ys := ys) fun z a => h z (by simp [a])
    have h2 := h y (by simp)
    have b : 0 ≤ kg c x y ∧ kg c x y ≤ 4096 := by unfold kg; split <;> omega
    simp only [zs, List.length_cons]
    omega
theorem ma (f : Int → Int → Int) : ∀ {xs ys : List Int}, xs.length ≤ ys.length → zs f xs (ys.take xs.length) = zs f xs ys
  | [], ys, _ => by cases ys <;> simp [zs]
  | x :: xs, [], h => by simp at h
  | x :: xs, y :: ys, h => by
    have := ma f (xs := xs) (ys := ys) (by simpa using h)
    simp only [List.length_cons, List.take_succ_cons, zs, this]
theorem kC {f : form} {g : aO} {p : List Int} (M : f.order.length ≤ 100) (I : g.length ≤ p.length) (U : p.length ≤ 100) (F : ∀ y ∈ p, 0 ≤ y ∧ y ≤ 4096) : Zb f g p = some (j6 g f.order p) := by
  unfold Zb
  rw [if_pos (by omega)]
  have L : (List.replicate (f.order.length : Int).toNat (0 : Int)) = List.replicate f.order.length 0 := by rw [Int.toNat_natCast]
  rw [L, dN (f := fun s : List Int × Int => Zb_L1 f g p s.1 s.2) (r := j6 g f.order p) (fun j => ((j6 g f.order p).take j ++ (List.replicate f.order.length (0 : Int)).drop j, (j : Int))) f.order.length (fun j q => by
    obtain ⟨base, m⟩ : ∃ b, b = (j6 g f.order p).take j ++ (List.replicate f.order.length (0 : Int)).drop j := ⟨_, rfl⟩
    have G : base.length = f.order.length := by rw [m]; simp [hX]; omega
    have u : ix base (j : Int) = 0 := by
      rw [m, sS (by rw [hX]; omega) (by simp; exact q), cB (by simp; exact q)]; simp
    have i : base.set j (ix (j6 g f.order p) (j : Int)) = (j6 g f.order p).take (j + 1) ++ (List.replicate f.order.length (0 : Int)).drop (j + 1) := by
      rw [m]; exact mQ (by rw [hX]; simp) (by simp; exact q)
    simp only [Zb_L1]
    rw [if_pos (by simp; omega), ← m, dN (f := fun s : List Int × Int => Zb_L2 f g p (j : Int) s.1 s.2) (r := base.set j (ix (j6 g f.order p) (j : Int))) (fun k => (base.set j (zs (kg (bt f.order (j : Int))) ((gB g).take k) (p.take k)), (k : Int))) g.length (fun k D => by
      have a := qf (bt f.order (j : Int)) (xs := (gB g).take k) (ys := p.take k) fun y h => F y (List.mem_of_mem_take h)
      have T : ((gB g).take k).length ≤ 100 := by rw [List.length_take, ir]; omega
      have J := F _ (bJ (xs := p) (k := k) (by omega))
      have E := hW (kg (bt f.order (j : Int))) (xs := gB g) (ys := p) (j := k) (by rw [ir]; exact D) (by omega)
      rw [sT D] at E
      simp only [Zb_L2, Zb_J5]
      rw [if_pos (by simp; omega), if_pos (by omega), if_pos (by omega), cR (by unfold cP; omega), E]
      unfold kg
      by_cases c : bt g (k : Int) = bt f.order (j : Int)
      · rw [if_pos (by simpa using c), if_pos (by simp; omega), if_pos (by omega), if_pos c, fJ (by omega), Int.toNat_natCast, List.set_set, aX (by unfold kg at a; omega) (by unfold kg at a; omega)]
      · rw [if_neg (by simpa using c), if_neg c, Int.add_zero]) (by
      simp only [Zb_L2]
      rw [if_neg (by simp), uk q, List.take_of_length_le (by rw [ir]; exact Nat.le_refl _)]
      have : zs (kg (bt f.order (j : Int))) (gB g) (p.take g.length) = zs (kg (bt f.order (j : Int))) (gB g) p := by
        have e : (gB g).length = g.length := ir g
        rw [← e]
        exact (ma _ (by rw [e]; exact I))
      rw [this]) (s := (base, 0)) (by
        simp only [List.take_zero, zs]
        congr 1
        have : base.set j 0 = base := by
          rw [← u, cB (by omega)]
          exact List.set_getElem_self _
        exact this.symm)]
    simp only [Option.bind_some, Zb_J6]
    rw [i, cR (by unfold cP; omega)]) (by
    simp only [Zb_L1]
    rw [if_neg (by simp), List.take_of_length_le (by rw [hX]; exact Nat.le_refl _), List.drop_of_length_le (by simp), List.append_nil]) (s := (List.replicate f.order.length 0, 0)) (by simp)]
  rfl
theorem qg {f : aO} {dss : List (List Int)} (hb : f.length ≤ 1048576) (T : ∀ ds ∈ dss, eL ds) :
    ((parts f).2.2 = true ∧ (parts f).1.length = dss.length ∧ ∃ s, m9 (parts f).1 (parts f).2.1 dss s ∧ eL ((s.1.map (lk s.2)).take (parts f).2.1.length) ∧ ∃ r, Z1 f dss = some (r, true) ∧ r.dims = (s.1.map (lk s.2)).take (parts f).2.1.length ∧ r.order = s.1 ∧ r.loops = s.1.map (lk s.2) ∧ r.steps = (List.range (parts f).1.length).map (fun j : Nat => j6 (ix (parts f).1 (j : Int)) s.1 (g0 (ix dss (j : Int)))) ∧ r.store = j6 (parts f).2.1 s.1 (g0 ((s.1.map (lk s.2)).take (parts f).2.1.length))) ∨
    (¬ ((parts f).2.2 = true ∧ (parts f).1.length = dss.length ∧ ∃ s, m9 (parts f).1 (parts f).2.1 dss s ∧ eL ((s.1.map (lk s.2)).take (parts f).2.1.length)) ∧ ∃ r, Z1 f dss = some (r, false)) := by
  obtain ⟨b, D⟩ : ∃ b, b = parts f := ⟨_, rfl⟩
  have G : b.2.2 = true → PO b.1 b.2.1 := by
    rw [D]; unfold parts
    split
    · intro h; cases h
    · split
      · intro _; assumption
      · intro h; cases h
  unfold Z1
  rw [rM hb, ← D]
  simp only [Option.bind_some]
  by_cases c1 : b.2.2 = true ∧ b.1.length = dss.length
  · obtain ⟨c1, F⟩ := c1
    rw [if_neg (by simp [c1, F])]
    have hP := G c1
    obtain ⟨p1, I, J, p4⟩ := hP
    have hs := mV (kd p4) I.2
    rcases uc (gs := b.1) (b := b) (dss := dss) rfl p1 J F (s := (b.2.1, List.replicate 26 0)) I.1 rfl with ⟨s, m, u, a3, a4⟩ | ⟨m, e, u, a3⟩
    · have a := jF ⟨p1, I, J, p4⟩ F T m
      simp only at u
      rw [u]
      simp only [Option.bind_some, Z1_J7]
      rcases ug (f := s.1) (lens := s.2) (by omega) a.i.c a.d with ⟨L, M⟩ | ⟨L, e, M, w3⟩
      · rw [M]
        simp only [Option.bind_some, Z1_J8]
        obtain ⟨t, ht⟩ := a.p
        have a5 : b.2.1.length ≤ (s.1.map (lk s.2)).length := by rw [ht]; simp
        have a0 : (s.1.map (lk s.2)).length ≤ 42 := by simpa using a.l
        rw [if_pos (by omega), lc, gu (by simp; omega)]
        simp only [Option.bind_some]
        rw [f' (by simp only [List.length_take]; unfold cP; omega)]
        simp only [Option.bind_some]
        by_cases c3 : eL ((s.1.map (lk s.2)).take b.2.1.length)
        · rw [decide_eq_true c3, if_neg (by simp)]
          refine .inl ⟨c1, F, s, ⟨m, L⟩, c3, ?_⟩
          have h1 := dN (f := fun z : List (List Int) × Int => Z1_L4 dss b s.1 (s.1.map (lk s.2)) ((s.1.map (lk s.2)).take b.2.1.length) z.1 z.2) (r := (List.range b.1.length).map (fun j : Nat => j6 (ix b.1 (j : Int)) s.1 (g0 (ix dss (j : Int))))) (fun j => ((List.range j).map (fun j : Nat => j6 (ix b.1 (j : Int)) s.1 (g0 (ix dss (j : Int)))), (j : Int))) b.1.length
            (fun j hj => by
              simp only [Z1_L4]
              have E := T _ (bJ (show j < dss.length by omega))
              rw [if_pos (by simp; omega), if_pos (by omega), if_pos (by omega), kY E]
              simp only [Option.bind_some]
              have a6 := (a.g j hj).1
              have U := (J _ (bJ hj)).1
              rw [kC (f := (⟨b.1, b.2.1, s.1, s.1.map (lk s.2), (s.1.map (lk s.2)).take b.2.1.length, _, []⟩ : form)) (g := ix b.1 (j : Int)) (p := g0 (ix dss (j : Int))) (by have := a.l; show s.1.length ≤ 100; omega) (by rw [fg]; omega) (by rw [fg]; omega) (gv E.2)]
              simp only [Option.bind_some]
              rw [if_pos (by simp; omega), cR (by unfold cP; omega), List.range_succ, List.map_append]
              rfl)
            (by
              simp only [Z1_L4]
              rw [if_neg (by simp)])
            (s := ([], 0)) rfl
          rw [h1]
          simp only [Option.bind_some, Z1_J9]
          rw [kY c3]
          simp only [Option.bind_some]
          rw [kC (f := (⟨b.1, b.2.1, s.1, s.1.map (lk s.2), (s.1.map (lk s.2)).take b.2.1.length, _, []⟩ : form)) (g := b.2.1) (p := g0 ((s.1.map (lk s.2)).take b.2.1.length)) (by have := a.l; show s.1.length ≤ 100; omega) (by rw [fg]; simp only [List.length_take]; omega) (by rw [fg]; simp only [List.length_take]; omega) (gv c3.2)]
          exact ⟨_, rfl, rfl, rfl, rfl, rfl, rfl⟩
        · rw [decide_eq_false c3, if_pos (by simp)]
          refine .inr ⟨?_, _, rfl⟩
          rintro ⟨_, _, s', h1, h2⟩
          have := h1.1
          rw [m] at this; cases this
          exact c3 h2
      · rw [M]
        obtain ⟨e1, e2⟩ := e
        simp only at w3; subst w3
        refine .inr ⟨?_, _, rfl⟩
        rintro ⟨_, _, s', h1, h2⟩
        have := h1.1
        rw [m] at this; cases this
        exact L h1.2
    · simp only at u
      rw [u]
      obtain ⟨e1, e2⟩ := e
      simp only at a3; subst a3
      refine .inr ⟨?_, _, rfl⟩
      rintro ⟨_, _, s', h1, h2⟩
      have := h1.1
      rw [m] at this; cases this
  · rw [if_pos]
    · exact .inr ⟨fun z => c1 ⟨z.1, z.2.1⟩, _, rfl⟩
    · cases q : b.2.2
      · rfl
      · have : b.1.length ≠ dss.length := fun z => c1 ⟨q, z⟩
        simp; omega
def vl : aO → List Int → UInt8 → Int
  | c :: o, i :: is, x => if x = c then i else vl o is x
  | _, _, _ => 0
theorem kh (a b : UInt8 → Int) : ∀ (o : aO) (is : List Int), zs (· * ·) is (o.map fun c => a c + b c) = zs (· * ·) is (o.map a) + zs (· * ·) is (o.map b)
  | [], is => by cases is <;> simp [zs]
  | c :: o, [] => by simp [zs]
  | c :: o, i :: is => by
    have := kh a b o is
    simp only [List.map_cons, zs, this, Int.mul_add]
    omega
theorem gV : ∀ (o : aO) (is : List Int) (f : UInt8 → Int), (∀ c ∈ o, f c = 0) → zs (· * ·) is (o.map f) = 0
  | [], is, f, _ => by cases is <;> simp [zs]
  | c :: o, [], f, _ => by simp [zs]
  | c :: o, i :: is, f, h => by
    have h1 := gV o is f fun x a => h x (by simp [a])
    simp only [List.map_cons, zs, h1, h c (by simp)]
    simp
theorem toNat_inj {a b : UInt8} (h : (a.toNat : Int) = (b.toNat : Int)) : a = b := UInt8.toNat_inj.1 (by omega)
theorem qh (x : UInt8) (y : Int) : ∀ {o : aO} {is : List Int}, o.Nodup → is.length = o.length → x ∈ o → zs (· * ·) is (o.map fun c => kg (c.toNat : Int) (x.toNat : Int) y) = vl o is x * y
  | [], _, _, _, h => by cases h
  | c :: o, [], _, h, _ => by simp at h
  | c :: o, i :: is, hn, hl, hx => by
    simp only [List.map_cons, zs, vl]
    by_cases e : x = c
    · subst e
      have b := gV o is (fun c => kg (c.toNat : Int) (x.toNat : Int) y) fun c a => by
        unfold kg
        rw [if_neg]
        intro q
        have := toNat_inj q
        subst this
        exact (List.nodup_cons.1 hn).1 a
      rw [b, if_pos rfl]
      simp [kg]
    · have h1 := qh x y (o := o) (is := is) (List.nodup_cons.1 hn).2 (by simpa using hl) (by simpa [e] using hx)
      rw [if_neg e, h1]
      unfold kg
      rw [if_neg (fun q => e (toNat_inj q))]
      simp
theorem mW {o : aO} (b : o.Nodup) {is : List Int} (a : is.length = o.length) : ∀ {g : aO} {p : List Int}, g.length = p.length → (∀ c ∈ g, c ∈ o) → zs (· * ·) is (j6 g o p) = zs (· * ·) (g.map (vl o is)) p
  | [], p, _, _ => by
    have : j6 [] o p = o.map fun _ => 0 := by
      unfold j6 gB
      rw [List.map_map]
      rfl
    rw [this, gV o is _ fun _ _ => rfl]
    cases p <;> simp [zs]
  | c :: g, [], h, _ => by simp at h
  | c :: g, y :: p, h, hm => by
    have h1 := mW b a (g := g) (p := p) (by simpa using h) fun x j => hm x (by simp [j])
    have h2 := qh c y b a (hm c (by simp))
    have e : j6 (c :: g) o (y :: p) = o.map fun z => kg (z.toNat : Int) (c.toNat : Int) y + zs (kg (z.toNat : Int)) (gB g) p := by
      unfold j6
      conv => lhs; arg 2; unfold gB
      rw [List.map_map]
      rfl
    have i : j6 g o p = o.map fun z => zs (kg (z.toNat : Int)) (gB g) p := by
      unfold j6
      conv => lhs; arg 2; unfold gB
      rw [List.map_map]
      rfl
    rw [e, kh, h2, ← i, h1]
    simp only [List.map_cons, zs]
theorem ul {o t : aO} {is g : List Int} (b : is.length = o.length) {c : UInt8} (a : c ∈ o) : vl (o ++ t) (is ++ g) c = vl o is c := by
  induction o generalizing is with
  | nil => cases a
  | cons x o ih => cases is with
    | nil => simp at b
    | cons i is =>
      simp only [List.cons_append, vl]
      by_cases e : c = x
      · rw [if_pos e, if_pos e]
      · rw [if_neg e, if_neg e, ih (by simpa using b) (by simpa [e] using a)]
theorem rS {o : aO} (a : o.Nodup) : ∀ {is : List Int}, is.length = o.length → o.map (vl o is) = is := by
  induction o with
  | nil => intro is h; cases is with
    | nil => rfl
    | cons => simp at h
  | cons c o ih => intro is h; cases is with
    | nil => simp at h
    | cons i is =>
      obtain ⟨b, a⟩ := List.nodup_cons.1 a
      have h1 : vl (c :: o) (i :: is) c = i := if_pos rfl
      have h2 : o.map (vl (c :: o) (i :: is)) = o.map (vl o is) := List.map_congr_left fun x e => if_neg fun q : x = c => b (by rw [← q]; exact e)
      rw [List.map_cons, h1, h2, ih a (is := is) (by simpa using h)]
theorem wy {o : aO} {ds is : List Int} (g : ds.length = o.length) (a : IV ds is) {c : UInt8} (b : c ∈ o) : 0 ≤ vl o is c ∧ vl o is c < vl o ds c := by
  induction o generalizing ds is with
  | nil => cases b
  | cons x o ih => cases ds with
    | nil => simp at g
    | cons d ds => cases is with
      | nil => exact a.elim
      | cons i is =>
        simp only [vl]
        by_cases e : c = x
        · rw [if_pos e, if_pos e]; exact a.1
        · rw [if_neg e, if_neg e]; exact ih (by simpa using g) a.2 (by simpa [e] using b)
theorem qi (F : UInt8 → Int) : ∀ {o : aO} {c : UInt8}, c ∈ o → vl o (o.map F) c = F c
  | [], _, h => by cases h
  | x :: o, c, h => by
    simp only [List.map_cons, vl]
    by_cases e : c = x
    · rw [if_pos e, e]
    · rw [if_neg e]; exact qi F (by simpa [e] using h)
theorem qj (F : UInt8 → Int) (G : UInt8 → Int) : ∀ {g : aO}, (∀ c ∈ g, 0 ≤ G c ∧ G c < F c) → IV (g.map F) (g.map G)
  | [], _ => trivial
  | c :: g, h => ⟨h c (by simp), qj F G fun x a => h x (by simp [a])⟩
structure LO (f : aO) (ts : List Tensor) (s : aO × List Int) (r : form) : Prop where
  fo : FO r
  ld : Laid (parts f).1 (parts f).2.1 (ts.map Tensor.Dims) s
  po : PO (parts f).1 (parts f).2.1
  gl : (parts f).1.length = ts.length
  dm : r.dims = (s.1.map (lk s.2)).take (parts f).2.1.length
  dok : eL r.dims
  lp : r.loops = s.1.map (lk s.2)
  st : r.steps = (List.range (parts f).1.length).map (fun j : Nat => j6 (ix (parts f).1 (j : Int)) s.1 (g0 (ix (ts.map Tensor.Dims) (j : Int))))
  sr : r.store = j6 (parts f).2.1 s.1 (g0 r.dims)
theorem wz {f : aO} (h : (parts f).2.2 = true) : PO (parts f).1 (parts f).2.1 := by
  unfold parts at h ⊢
  split at h
  · cases h
  · split at h
    · rename_i q; rw [if_pos q]; exact q
    · cases h
theorem sU {f : aO} {ts : List Tensor} (hb : f.length ≤ 1048576) (ht : ∀ t ∈ ts, TT t) : (∃ s r, li f (ts.map Tensor.Dims) s ∧ Z1 f (ts.map Tensor.Dims) = some (r, true) ∧ LO f ts s r) ∨ ((¬ ∃ s, li f (ts.map Tensor.Dims) s) ∧ ∃ r, Z1 f (ts.map Tensor.Dims) = some (r, false)) := by
  have E : ∀ ds ∈ ts.map Tensor.Dims, eL ds := by
    intro ds h
    obtain ⟨t, h1, rfl⟩ := List.mem_map.1 h
    exact (ht t h1).d
  rcases qg (f := f) (dss := ts.map Tensor.Dims) hb E with ⟨c1, m, s, q, u, r, G, I, r3, i, J, T⟩ | ⟨c, r, G⟩
  · refine .inl ⟨s, r, ⟨c1, m, q, u⟩, G, ?_⟩
    have a := wz c1
    have D := jF a m E q.1
    obtain ⟨p1, L, M, p4⟩ := a
    have b : ∀ (g : aO) (p : List Int), g.length ≤ 6 → (∀ y ∈ p, 0 ≤ y ∧ y ≤ 4096) → SB r.loops (j6 g s.1 p) := by
      intro g p hg hp
      refine ⟨by rw [hX, i]; simp, fun x e => ?_⟩
      unfold j6 at e
      obtain ⟨c, _, rfl⟩ := List.mem_map.1 e
      have := qf c (xs := gB g) (ys := p) hp
      rw [ir] at this
      omega
    refine ⟨⟨fun x e => (D.d x (by rw [i] at e; exact e)).1, by rw [i]; exact q.2, by rw [i]; simpa using D.l, ?_, ?_, by rw [J]; simpa using p1⟩, D, ⟨p1, L, M, p4⟩, by simpa using m, I, by rw [I]; exact u, i, J, by rw [I]; exact T⟩
    · rw [T]; exact b _ _ L.1 (gv u.2)
    · intro ss h
      rw [J] at h
      obtain ⟨j, F, rfl⟩ := List.mem_map.1 h
      have F := List.mem_range.1 F
      exact b _ _ (M _ (bJ F)).1 (gv (E _ (bJ (by omega))).2)
  · exact .inr ⟨fun ⟨s, h1, h2, U, h4⟩ => c ⟨h1, h2, s, U, h4⟩, r, G⟩
theorem nN {a b : Int} (h : 0 ≤ a ∧ a < 2147483647) (e : 0 ≤ b ∧ b < 2147483647) : Z16 a b = some (a * b % 2147483647) := by
  have g : 0 ≤ a * b := Int.mul_nonneg h.1 e.1
  have h1 : a * b ≤ 2147483646 * 2147483646 := Int.mul_le_mul (by omega) (by omega) e.1 (by omega)
  unfold Z16
  rw [aX (by omega) (by omega), Int.tmod_eq_emod_of_nonneg g]
theorem lm {a b : Int} (e : 0 ≤ a ∧ a < 2147483647) (g : 0 ≤ b ∧ b < 2147483647) : Z0g a b = some ((a + b) % 2147483647) := by
  unfold Z0g Z0g_J1
  rw [aX (n := a + b) (by omega) (by omega)]
  by_cases c : a + b ≥ 2147483647
  · rw [if_pos (by simpa using c), aX (by omega) (by omega)]; congr 1; omega
  · rw [if_neg (by simpa using c)]; congr 1; omega
theorem mc (x : Int) : 0 ≤ x % 2147483647 ∧ x % 2147483647 < 2147483647 := ⟨Int.emod_nonneg _ (by omega), Int.emod_lt_of_pos _ (by omega)⟩
def ou (at_ : List Int) (ts : List Tensor) : Nat → Int
  | 0 => 1
  | k + 1 => ou at_ ts k * ix (ix ts (k : Int)).Data (ix at_ (k : Int)) % 2147483647
theorem qk (at_ : List Int) (ts : List Tensor) : ∀ k, 0 ≤ ou at_ ts k ∧ ou at_ ts k < 2147483647
  | 0 => by simp [ou]
  | k + 1 => mc _
theorem rT {at_ : List Int} {ts : List Tensor} {t : Tensor} {to : Int} (E : at_.length = ts.length) (D : ts.length ≤ 6) (q : ∀ t ∈ ts, ∀ x ∈ t.Data, 0 ≤ x ∧ x < 2147483647) (i : ∀ k : Nat, k < ts.length → 0 ≤ ix at_ (k : Int) ∧ ix at_ (k : Int) < (((ix ts (k : Int)).Data.length : Nat) : Int)) (h : 0 ≤ to) (h1 : to < (t.Data.length : Int)) (u : ∀ x ∈ t.Data, 0 ≤ x ∧ x < 2147483647) :
    Z04 at_ to ts t = some (t.Data.set to.toNat ((ix t.Data to + ou at_ ts ts.length) % 2147483647)) := by
  unfold Z04
  rw [dN (f := fun s : Int × Int => Z04_L1 at_ ts s.1 s.2) (r := ou at_ ts ts.length) (fun k => (ou at_ ts k, (k : Int))) ts.length (fun k g => by
    have a := i k g
    obtain ⟨j, m⟩ := Int.eq_ofNat_of_zero_le a.1
    have b := q _ (bJ g) _ (bJ (xs := (ix ts (k : Int)).Data) (k := j) (by omega))
    rw [← m] at b
    simp only [Z04_L1]
    rw [if_pos (by simp; omega), if_pos (by omega), if_pos (by omega), if_pos a, nN (qk at_ ts k) b, Option.bind_some, cR (by unfold cP; omega)]
    rfl) (by
    simp only [Z04_L1]
    rw [if_neg (by simp)]) (s := (1, 0)) rfl]
  obtain ⟨j, rfl⟩ := Int.eq_ofNat_of_zero_le h
  have e := u _ (bJ (xs := t.Data) (k := j) (by omega))
  simp only [Option.bind_some, Z04_J2]
  rw [if_pos (by omega), lm e (qk _ _ _)]
  rfl
def ql (to ct : Nat → Int) (n : Nat) : Nat → List Int
  | 0 => List.replicate n 0
  | m + 1 => (ql to ct n m).set (to m).toNat ((ix (ql to ct n m) (to m) + ct m) % 2147483647)
theorem jH (to ct : Nat → Int) (n : Nat) : ∀ m, (ql to ct n m).length = n
  | 0 => by simp [ql]
  | m + 1 => by simp [ql, jH to ct n m]
theorem qm (to ct : Nat → Int) (n : Nat) : ∀ m, ∀ x ∈ ql to ct n m, 0 ≤ x ∧ x < 2147483647
  | 0, x, h => by rw [(List.mem_replicate.1 h).2]; omega
  | m + 1, x, h => f8 (qm to ct n m) (mc _) x h
def ki (g : Nat → Int) : Nat → Int
  | 0 => 0
  | r + 1 => (ki g r + g r) % 2147483647
theorem it {g g' : Nat → Int} : ∀ {n : Nat}, (∀ r, r < n → g r = g' r) → ki g n = ki g' n
  | 0, _ => rfl
  | n + 1, h => by simp only [ki]; rw [it fun r a => h r (by omega), h n (by omega)]
theorem kD {α : Type} [Inhabited α] {ys : List α} {k j : Nat} {v : α} (h : k ≠ j) : ix (ys.set k v) (j : Int) = ix ys (j : Int) := by
  simp only [ix, Int.toNat_natCast]
  rw [List.getD_eq_getElem?_getD, List.getD_eq_getElem?_getD, List.getElem?_set_ne h]
theorem um {to ct : Nat → Int} {n R : Nat} (u : 0 < R) (b : ∀ m, m < n * R → to m = ((m / R : Nat) : Int)) : ∀ m, m ≤ n * R → ∀ q, q < n → ix (ql to ct n m) (q : Int) = ki (fun r => ct (q * R + r)) (min R (m - q * R)) := by
  intro m
  induction m with
  | zero =>
    intro _ q a
    have : min R (0 - q * R) = 0 := by omega
    rw [this]
    show ix (List.replicate n 0) (q : Int) = 0
    rw [cB (by simpa using a)]; simp
  | succ m ih =>
    intro G q a
    have F : m / R < n := Nat.div_lt_of_lt_mul (by rw [Nat.mul_comm]; omega)
    have E := Nat.div_add_mod m R
    have g := Nat.mod_lt m u
    have D : R * (m / R) = m / R * R := Nat.mul_comm _ _
    simp only [ql]
    rw [b m (by omega), Int.toNat_natCast]
    by_cases e : m / R = q
    · rw [e, fJ (by rw [jH]; exact a), ih (by omega) q a]
      rw [e] at D E
      have h : min R (m - q * R) = m % R := by omega
      have i : min R (m + 1 - q * R) = m % R + 1 := by omega
      rw [h, i]
      simp only [ki]
      have j : q * R + m % R = m := by omega
      rw [j]
    · rw [kD e, ih (by omega) q a]
      congr 1
      by_cases c : m / R < q
      · have : (m / R + 1) * R ≤ q * R := Nat.mul_le_mul_right R (by omega)
        rw [Nat.add_mul] at this
        omega
      · have : (q + 1) * R ≤ m / R * R := Nat.mul_le_mul_right R (by omega)
        rw [Nat.add_mul] at this
        omega
theorem rU {a b : List Int} (g : ∀ d ∈ a, 1 ≤ d) (h : ∀ d ∈ b, 1 ≤ d) (m : Int) : dX (a ++ b) m = dX a (m / pr b) ++ dX b m := by
  induction a with
  | nil => simp [dX]
  | cons x a ih =>
    have h1 := dJ (ds := a) fun d e => g d (by simp [e])
    have h2 := dJ (ds := b) h
    simp only [List.cons_append, dX, ih fun d e => g d (by simp [e]), gr]
    congr 2
    rw [Int.mul_comm, ← Int.ediv_ediv_of_nonneg (by omega)]
theorem qn {t : Tensor} (h : TT t) : Z0r t = some true := by
  have := pM h
  rw [kW (by unfold cP; omega) (by unfold cP; omega), decide_eq_true (show TOk t.Dims t.Data from h)]
theorem ln {ts : List Tensor} (b : ts.length ≤ 1048576) (h : ∀ t ∈ ts, TT t) : Zq ts = some true := by
  unfold Zq
  rw [dN (f := fun s : Int => Zq_L1 ts s) (s := 0) (r := .inr ()) (fun k => (k : Int)) ts.length (fun k a => by
    simp only [Zq_L1]
    rw [if_pos (by simp; omega), if_pos (by omega), qn (h _ (bJ a)), Option.bind_some, if_neg (by simp), cR (by unfold cP; omega)]) (by
    simp only [Zq_L1]
    rw [if_neg (by simp)]) rfl]
  rfl
theorem qo {ts : List Tensor} (g : ts.length ≤ 1048576) (b : ∀ t ∈ ts, t.Dims.length < cP ∧ t.Data.length < cP) (h : ¬ ∀ t ∈ ts, TT t) : Zq ts = some false := by
  unfold Zq
  have := eP ts (fun s : Int => Zq_L1 ts s) (fun i => i) (fun t => decide (TOk t.Dims t.Data)) (.inl false) (.inr ())
    (fun k a => by
      have := b _ (bJ a)
      simp only [Zq_L1]
      rw [if_pos (by simp; omega), if_pos (by omega), kW this.1 this.2, Option.bind_some, cR (by unfold cP; omega)]
      cases decide (TOk (ix ts (k : Int)).Dims (ix ts (k : Int)).Data) <;> rfl)
    (by simp only [Zq_L1]; rw [if_neg (by simp)])
  rw [this, if_neg]
  · rfl
  · intro q
    apply h
    intro t e
    show TOk t.Dims t.Data
    exact of_decide_eq_true (List.all_eq_true.1 q t e)
theorem kj {ts : List Tensor} (g : ts.length ≤ 1048576) : Z1f ts = some (ts.map Tensor.Dims) := by
  unfold Z1f Z0f
  have b : ∀ k : Nat, k < ts.length → ((ts.map Tensor.Dims).take k ++ (List.replicate ts.length ([] : List Int)).drop k).set k (ix ts (k : Int)).Dims = (ts.map Tensor.Dims).take (k + 1) ++ (List.replicate ts.length ([] : List Int)).drop (k + 1) := by
    intro k a
    have e : ((ts.map Tensor.Dims).take k).length = k := by simp; omega
    rw [List.set_append_right _ _ (by omega), e, Nat.sub_self, List.drop_eq_getElem_cons (by simpa using a), List.set_cons_zero, List.take_succ_eq_append_getElem (by simpa using a), List.append_assoc, cB a]
    simp
  rw [if_pos (by omega), dN (f := fun s : (List (List Int)) × Int => Z0f_L1 ts s.1 s.2) (s := (List.replicate (ts.length : Int).toNat [], 0)) (r := ts.map Tensor.Dims) (fun k => ((ts.map Tensor.Dims).take k ++ (List.replicate ts.length ([] : List Int)).drop k, (k : Int))) ts.length (fun k a => by
    simp only [Z0f_L1, Z1r]
    rw [if_pos (by simp; omega), if_pos (by omega), Option.bind_some, if_pos (by simp; omega), Int.toNat_natCast, b k a, cR (by unfold cP; omega)]) (by
    simp only [Z0f_L1]
    rw [if_neg (by simp), List.take_of_length_le (by simp), List.drop_of_length_le (by simp), List.append_nil]) (by simp)]
  rfl
theorem lq {ds : List Int} (h : eL ds) : Z0z ds = some ⟨ds, List.replicate (pr ds).toNat 0⟩ := by
  have h1 := h.1
  have h2 := h.2.2
  have a := dJ h.2.1
  unfold Z0z
  rw [f' (by unfold cP; omega), decide_eq_true h, Option.bind_some, if_neg (by simp), gu (by omega), Option.bind_some, im (by unfold cP; omega) h.2, Option.bind_some, if_pos (by omega)]
def sW (s : aO × List Int) (g : aO) (is : List Int) : List Int := g.map (vl s.1 is)
section
variable {f : aO} {ts : List Tensor} {s : aO × List Int} {r : form}
theorem LO.grp (h : LO f ts s r) {k : Nat} (i : k < ts.length) : (ix ts (k : Int)).Dims = (ix (parts f).1 (k : Int)).map (lk s.2) ∧ ∀ c ∈ ix (parts f).1 (k : Int), c ∈ s.1 := by
  obtain ⟨m, b⟩ := h.ld.g k (by rw [h.gl]; exact i)
  have e : ix (ts.map Tensor.Dims) (k : Int) = (ix ts (k : Int)).Dims := by rw [cB (by simpa using i), cB i]; simp
  rw [e] at m b
  refine ⟨?_, fun c q => ?_⟩
  · refine List.ext_getElem (by simp [m]) fun j h1 h2 => ?_
    have := (b j (by omega)).2
    rw [cB (by omega), cB h1] at this
    simp [this]
  · obtain ⟨j, a, rfl⟩ := List.getElem_of_mem q
    have := (b j a).1
    rwa [cB a] at this
theorem LO.iv (h : LO f ts s r) {is : List Int} (e : IV r.loops is) {g : aO} (b : ∀ c ∈ g, c ∈ s.1) : IV (g.map (lk s.2)) (sW s g is) := by
  refine qj _ _ fun c a => ?_
  have := wy (o := s.1) (ds := r.loops) (by rw [h.lp]; simp) e (b c a)
  rw [h.lp, qi _ (b c a)] at this
  exact this
theorem LO.at_ (h : LO f ts s r) {is : List Int} (m : IV r.loops is) {k : Nat} (g : k < ts.length) : ix (AT r.steps is) (k : Int) = fA (ix ts (k : Int)).Dims (sW s (ix (parts f).1 (k : Int)) is) ∧ IV (ix ts (k : Int)).Dims (sW s (ix (parts f).1 (k : Int)) is) := by
  obtain ⟨g1, j⟩ := h.grp g
  have a := h.iv m j
  rw [← g1] at a
  refine ⟨?_, a⟩
  have b : k < (parts f).1.length := by rw [h.gl]; exact g
  have e : ix (ts.map Tensor.Dims) (k : Int) = (ix ts (k : Int)).Dims := by rw [cB (by simpa using g), cB g]; simp
  rw [qc (by rw [h.st]; simpa using b)]
  have q : ix r.steps (k : Int) = j6 (ix (parts f).1 (k : Int)) s.1 (g0 (ix ts (k : Int)).Dims) := by
    rw [h.st, cB (by simpa using b)]; simp [e]
  rw [q, mW h.ld.i.n (by have := m.len; rw [h.lp] at this; simpa using this) (by rw [fg, g1]; simp) j]
  exact j3 a
theorem LO.pre (h : LO f ts s r) : ∃ t, s.1 = (parts f).2.1 ++ t ∧ r.loops = r.dims ++ t.map (lk s.2) ∧ r.dims = (parts f).2.1.map (lk s.2) := by
  obtain ⟨t, a⟩ := h.ld.p
  have e : r.dims = (parts f).2.1.map (lk s.2) := by rw [h.dm, a, List.map_append, List.take_left' (by simp)]
  exact ⟨t, a, by rw [h.lp, e, a, List.map_append], e⟩
theorem LO.to_ (h : LO f ts s r) {is : List Int} (e : IV r.loops is) : zs (· * ·) is r.store = fA r.dims (sW s (parts f).2.1 is) ∧ IV r.dims (sW s (parts f).2.1 is) := by
  obtain ⟨t, h1, h2, b⟩ := h.pre
  have g : ∀ c ∈ (parts f).2.1, c ∈ s.1 := fun c j => by rw [h1]; exact List.mem_append_left _ j
  have a := h.iv e g
  rw [← b] at a
  refine ⟨?_, a⟩
  rw [h.sr, mW h.ld.i.n (by have := e.len; rw [h.lp] at this; simpa using this) (by rw [fg, b]; simp) g]
  exact j3 a
theorem mX (h : LO f ts s r) (u : Z1 f (ts.map Tensor.Dims) = some (r, true)) (b : ∀ t ∈ ts, TT t) :
    Z0q f ts = some ⟨r.dims, ql (fun m => zs (· * ·) (dX r.loops (m : Int)) r.store) (fun m => ou (AT r.steps (dX r.loops (m : Int))) ts ts.length) (pr r.dims).toNat (pr r.loops).toNat⟩ := by
  have E : ts.length ≤ 6 := by have := h.po.1; rw [h.gl] at this; exact this
  have L := dJ h.dok.2.1
  unfold Z0q
  rw [ln (by omega) b, Option.bind_some, if_neg (by simp), kj (by omega), Option.bind_some, u, Option.bind_some, if_neg (by simp)]
  dsimp only
  rw [lq h.dok, Option.bind_some]
  obtain ⟨y, h1, h2⟩ := qe h.fo (ts := ts) (t := ⟨r.dims, List.replicate (pr r.dims).toNat 0⟩) (fun k y => y = ql (fun m => zs (· * ·) (dX r.loops (m : Int)) r.store) (fun m => ou (AT r.steps (dX r.loops (m : Int))) ts ts.length) (pr r.dims).toNat k)
    (fun k y J G => by
      subst G
      have e := f7 h.fo.d (k : Int)
      obtain ⟨t1, I⟩ := h.to_ e
      have F := fp h.dok.2.1 I
      refine ⟨_, rT (by rw [gw, h.st]; simp [h.gl]) E (fun t D => (b t D).x) (fun j g => ?_) (by omega) (by rw [jH]; omega) (qm _ _ _ _), rfl⟩
      obtain ⟨i, q⟩ := h.at_ e g
      have a := b _ (bJ g)
      have := fp a.d.2.1 q
      rw [i, a.l]
      exact this) rfl
  rw [h1, Option.bind_some, h2]
theorem md (h : LO f ts s r) {q : Nat} (hq : (q : Int) < pr r.dims) : ∃ R : Nat, (R : Int) = pr (r.loops.drop r.dims.length) ∧
    ix (ql (fun m => zs (· * ·) (dX r.loops (m : Int)) r.store) (fun m => ou (AT r.steps (dX r.loops (m : Int))) ts ts.length) (pr r.dims).toNat (pr r.loops).toNat) (q : Int) = ki (fun c => ou (AT r.steps (dX r.dims (q : Int) ++ dX (r.loops.drop r.dims.length) (c : Int))) ts ts.length) R := by
  obtain ⟨t, h1, h2, h3⟩ := h.pre
  have hd : r.loops.drop r.dims.length = t.map (lk s.2) := by rw [h2, List.drop_left]
  rw [hd]
  have a : ∀ d ∈ t.map (lk s.2), 1 ≤ d := fun d G => h.fo.d d (by rw [h2]; exact List.mem_append_right _ G)
  have a0 := dJ a
  have a1 := dJ h.dok.2.1
  obtain ⟨R, j⟩ := Int.eq_ofNat_of_zero_le (show 0 ≤ pr (t.map (lk s.2)) by omega)
  obtain ⟨n, I⟩ := Int.eq_ofNat_of_zero_le (show 0 ≤ pr r.dims by omega)
  have a2 : pr r.loops = ((n * R : Nat) : Int) := by rw [h2, gr, I, j]; simp
  refine ⟨R, j.symm, ?_⟩
  have b : ∀ m : Nat, dX r.loops (m : Int) = dX r.dims ((m / R : Nat) : Int) ++ dX (t.map (lk s.2)) (m : Int) := by
    intro m
    rw [h2, rU h.dok.2.1 a, j]
    rfl
  have F : ∀ m, m < n * R → zs (· * ·) (dX r.loops (m : Int)) r.store = ((m / R : Nat) : Int) := by
    intro m G
    obtain ⟨t1, _⟩ := h.to_ (f7 h.fo.d (m : Int))
    rw [t1]
    have e : sW s (parts f).2.1 (dX r.loops (m : Int)) = dX r.dims ((m / R : Nat) : Int) := by
      have E : (parts f).2.1.Nodup := by have := h.ld.i.n; rw [h1] at this; exact (List.nodup_append.1 this).1
      have g : (dX r.dims ((m / R : Nat) : Int)).length = (parts f).2.1.length := by rw [fE, h3]; simp
      unfold sW
      rw [b m, h1]
      have : (parts f).2.1.map (vl ((parts f).2.1 ++ t) (dX r.dims ((m / R : Nat) : Int) ++ dX (t.map (lk s.2)) (m : Int))) = (parts f).2.1.map (vl (parts f).2.1 (dX r.dims ((m / R : Nat) : Int))) := List.map_congr_left fun c u => ul g u
      rw [this, rS E g]
    rw [e]
    have D : m / R < n := Nat.div_lt_of_lt_mul (by rw [Nat.mul_comm]; omega)
    exact kz h.dok.2.1 (Int.natCast_nonneg _) (by rw [I]; exact Int.ofNat_lt.2 D)
  have ha := um (to := fun m => zs (· * ·) (dX r.loops (m : Int)) r.store) (ct := fun m => ou (AT r.steps (dX r.loops (m : Int))) ts ts.length) (n := n) (R := R) (by omega) F (n * R) (Nat.le_refl _) q (by omega)
  have J : (pr r.dims).toNat = n := by omega
  have L : (pr r.loops).toNat = n * R := by omega
  rw [J, L, ha]
  have a3 : q * R + R ≤ n * R := by
    have : (q + 1) * R ≤ n * R := Nat.mul_le_mul_right R (by omega)
    rw [Nat.add_mul] at this; omega
  have M : min R (n * R - q * R) = R := by omega
  rw [M]
  refine it fun c u => ?_
  rw [b]
  have T : (q * R + c) / R = q := by rw [Nat.mul_comm, Nat.mul_add_div (by omega), Nat.div_eq_of_lt u]; omega
  have U : dX (t.map (lk s.2)) ((q * R + c : Nat) : Int) = dX (t.map (lk s.2)) (c : Int) := by
    have := nL (t.map (lk s.2)) a (c : Int) (q : Int)
    rw [j] at this
    rw [← this]
    congr 1
    simp
    omega
  rw [T, U]
end
theorem j7 {α β : Type} {F : α → List β} {m : Nat} : ∀ {xs : List α}, (∀ x ∈ xs, (F x).length = m) → (xs.flatMap F).length = xs.length * m
  | [], _ => by simp
  | x :: xs, h => by
    rw [List.flatMap_cons, List.length_append, h x (by simp), j7 fun y a => h y (by simp [a]), List.length_cons, Nat.add_mul]; omega
def rV (l n b : Int) (i : Int) (p : pair) (j : Nat) : pair := ⟨(i * l + p.from_) * b + (j : Int), (i * n + p.to) * b + (j : Int)⟩
def qP (l n : Int) (b : Nat) (i : Int) (p : pair) : List pair := (List.range b).map (rV l n (b : Int) i p)
def ov (l n : Int) (b : Nat) (a : List pair) (i : Int) : List pair := a.flatMap (qP l n b i)
def rW (a : Nat) (l n : Int) (b : Nat) (e : List pair) : List pair := (List.range a).flatMap fun i : Nat => ov l n b e (i : Int)
theorem rX {ds : List Int} (h : eL ds) {k : Nat} (hk : k < ds.length) {n : Int} (a3 : 0 ≤ n ∧ n ≤ 16384) {l : List pair} (hl : l.length ≤ 4096) (hp : ∀ p ∈ l, (0 ≤ p.from_ ∧ p.from_ ≤ 4096) ∧ 0 ≤ p.to ∧ p.to ≤ 16384) :
    Z5 ds (k : Int) n l = some (rW (pr (ds.take k)).toNat (ix ds (k : Int)) n (pr (ds.drop (k + 1))).toNat l) := by
  have hn := h.1
  unfold Z5
  rw [nC h hk]
  simp only [Option.bind_some]
  obtain ⟨a, ha⟩ : ∃ a : Nat, (a : Int) = pr (ds.take k) := ⟨(pr (ds.take k)).toNat, by have := (h.2.take k).pos; omega⟩
  obtain ⟨b, hb⟩ : ∃ b : Nat, (b : Int) = pr (ds.drop (k + 1)) := ⟨(pr (ds.drop (k + 1))).toNat, by have := (h.2.drop (k + 1)).pos; omega⟩
  have U := (h.2.take k).2
  have F := (h.2.drop (k + 1)).2
  have a0 := (h.2.take k).pos
  have b0 := (h.2.drop (k + 1)).pos
  have d1 := h.2.mem (bJ (xs := ds) (k := k) hk)
  rw [← ha] at U a0 ⊢
  rw [← hb] at F b0 ⊢
  obtain ⟨e, u⟩ : ∃ e, e = ix ds (k : Int) := ⟨_, rfl⟩
  rw [← u] at d1 ⊢
  have k1 : (a : Int) * b ≤ 4096 * 4096 := Int.mul_le_mul U F (by omega) (by omega)
  have k0 : 0 ≤ (a : Int) * b := Int.mul_nonneg (by omega) (by omega)
  have k3 : (a : Int) * b * l.length ≤ 4096 * 4096 * 4096 := Int.mul_le_mul k1 (by omega) (by omega) (by omega)
  have k4 : 0 ≤ (a : Int) * b * l.length := Int.mul_nonneg k0 (by omega)
  have lb : l.length * b ≤ 4096 * 4096 := Nat.mul_le_mul hl (by omega)
  have a2 : a * (l.length * b) ≤ 4096 * (4096 * 4096) := Nat.mul_le_mul (by omega) lb
  have g : ∀ (i : Int) (p : pair), (qP e n b i p).length = b := fun i p => by simp [qP]
  have G : ∀ i : Int, (ov e n b l i).length = l.length * b := fun i => by unfold ov; rw [j7 (m := b) fun x _ => g i x]
  have ea : (a : Int).toNat = a := Int.toNat_natCast a
  have eb : (b : Int).toNat = b := Int.toNat_natCast b
  have D : ∀ (i : Nat), i < a → ∀ (x y z : Int), 0 ≤ x ∧ x ≤ 16384 → 0 ≤ y ∧ y ≤ 16384 → ∀ j : Nat, j < b → aG (aG (aG (aG ((i : Int) * x) + y) * (b : Int)) + (j : Int)) = ((i : Int) * x + y) * (b : Int) + (j : Int) := by
    intro i I x y z M E j J
    have m1 : 0 ≤ (i : Int) * x ∧ (i : Int) * x ≤ 4096 * 16384 := ⟨Int.mul_nonneg (by omega) M.1, Int.mul_le_mul (by omega) M.2 M.1 (by omega)⟩
    have m2 : 0 ≤ ((i : Int) * x + y) * (b : Int) ∧ ((i : Int) * x + y) * (b : Int) ≤ (4096 * 16384 + 16384) * 4096 := ⟨Int.mul_nonneg (by omega) (by omega), Int.mul_le_mul (by omega) F (by omega) (by omega)⟩
    rw [aX (n := (i : Int) * x) (by omega) (by omega), aX (n := (i : Int) * x + y) (by omega) (by omega), aX (n := _ * (b : Int)) (by omega) (by omega), aX (by omega) (by omega)]
  rw [aX (n := (a : Int) * b) (by omega) (by omega), aX (by omega) (by omega), if_pos (by omega), ea, eb]
  rw [dN (f := fun s : List pair × Int => Z5_L1 n l ((a : Int), e, (b : Int)) s.1 s.2) (s := ([], 0)) (r := rW a e n b l) (fun i => ((List.range i).flatMap fun i : Nat => ov e n b l (i : Int), (i : Int))) a (fun i I => by
      obtain ⟨y, E⟩ : ∃ y, y = (List.range i).flatMap fun i : Nat => ov e n b l (i : Int) := ⟨_, rfl⟩
      have a7 : y.length = i * (l.length * b) := by rw [E, j7 (m := l.length * b) fun x _ => G _]; simp
      have a6 : i * (l.length * b) ≤ a * (l.length * b) := Nat.mul_le_mul_right _ (by omega)
      simp only [Z5_L1, Z5_J6]
      rw [← E, if_pos (by simp; omega), cR (by unfold cP; omega)]
      rw [dN (f := fun s : List pair × Int => Z5_L2 n l ((a : Int), e, (b : Int)) (i : Int) s.1 s.2) (s := (y, 0)) (r := y ++ ov e n b l (i : Int)) (fun q => (y ++ (l.take q).flatMap (qP e n b (i : Int)), (q : Int))) l.length (fun q L => by
          obtain ⟨z, T⟩ : ∃ z, z = y ++ (l.take q).flatMap (qP e n b (i : Int)) := ⟨_, rfl⟩
          have a8 : z.length = y.length + q * b := by
            rw [T, List.length_append, j7 (m := b) fun x _ => g _ x, List.length_take]
            have : min q l.length = q := by omega
            rw [this]
          have a5 : q * b ≤ l.length * b := Nat.mul_le_mul_right _ (by omega)
          have a4 := hp _ (bJ L)
          simp only [Z5_L2, Z5_J5]
          rw [← T, if_pos (by simp; omega), if_pos (by omega), cR (by unfold cP; omega)]
          rw [dN (f := fun s : List pair × Int => Z5_L3 n l ((a : Int), e, (b : Int)) (i : Int) (q : Int) s.1 s.2) (s := (z, 0)) (r := z ++ qP e n b (i : Int) (ix l (q : Int))) (fun j => (z ++ (List.range j).map (rV e n (b : Int) (i : Int) (ix l (q : Int))), (j : Int))) b (fun j J => by
              simp only [Z5_L3]
              rw [if_pos (by simp; omega), if_pos (by simp; omega), cR (by unfold cP; omega), D i I e _ 0 (by omega) (by omega) j J, D i I n _ 0 (by omega) (by omega) j J, List.range_succ, List.map_append, List.append_assoc]
              rfl) (by
              simp only [Z5_L3]
              rw [if_neg (by simp)]
              rfl) (by simp)]
          rw [Option.bind_some, List.take_succ_eq_append_getElem L, List.flatMap_append, ← cB L, T, List.append_assoc]
          simp) (by
          simp only [Z5_L2]
          rw [if_neg (by simp), List.take_length]
          rfl) (by simp)]
      rw [Option.bind_some, List.range_succ, List.flatMap_append, E]
      simp) (by
      simp only [Z5_L1]
      rw [if_neg (by simp)]
      rfl) (by simp)]
  rfl
def ps (data : List Int) (q : Int) : Int → List pair → Int
  | s, [] => s
  | s, p :: l => ps data q (if p.to = q then (s + ix data p.from_) % 2147483647 else s) l
theorem iu (data : List Int) (q : Int) : ∀ (A B : List pair) (s : Int), ps data q s (A ++ B) = ps data q (ps data q s A) B
  | [], _, _ => rfl
  | p :: A, B, s => iu data q A B _
theorem me {data : List Int} {q : Int} : ∀ {A : List pair} {s : Int}, (∀ p ∈ A, p.to ≠ q) → ps data q s A = s
  | [], _, _ => rfl
  | p :: A, s, h => by
    simp only [ps]
    rw [if_neg (h p (by simp))]
    exact me fun x a => h x (by simp [a])
theorem rY {data ds : List Int} (h : eL ds) (L : ∀ x ∈ data, 0 ≤ x ∧ x < 2147483647) {a : List pair} (hl : a.length ≤ 1099511627776) (M : ∀ p ∈ a, (0 ≤ p.from_ ∧ p.from_ < (data.length : Int)) ∧ 0 ≤ p.to ∧ p.to < pr ds) :
    ∃ x, Z0b data ds a = some ⟨ds, x⟩ ∧ (x.length : Int) = pr ds ∧ (∀ y ∈ x, 0 ≤ y ∧ y < 2147483647) ∧ ∀ q : Nat, (q : Int) < pr ds → ix x (q : Int) = ps data (q : Int) 0 a := by
  have T := dJ h.2.1
  unfold Z0b
  rw [lq h, Option.bind_some]
  obtain ⟨r, h1, h2⟩ := ka (f := fun s : List Int × Int => Z0b_L1 data a ⟨ds, List.replicate (pr ds).toNat 0⟩ s.1 s.2) (fun k s => s.2 = (k : Int) ∧ (s.1.length : Int) = pr ds ∧ (∀ y ∈ s.1, 0 ≤ y ∧ y < 2147483647) ∧ ∀ q : Nat, (q : Int) < pr ds → ix s.1 (q : Int) = ps data (q : Int) 0 (a.take k)) a.length (Post := fun x => (x.length : Int) = pr ds ∧ (∀ y ∈ x, 0 ≤ y ∧ y < 2147483647) ∧ ∀ q : Nat, (q : Int) < pr ds → ix x (q : Int) = ps data (q : Int) 0 a)
    (fun k s I D => by
      obtain ⟨x, i⟩ := s
      obtain ⟨g, j, b, m⟩ := D
      dsimp only at g j b m
      subst g
      obtain ⟨p1, p2⟩ := M _ (bJ I)
      obtain ⟨t, J⟩ := Int.eq_ofNat_of_zero_le p2.1
      obtain ⟨fr, G⟩ := Int.eq_ofNat_of_zero_le p1.1
      have E : 0 ≤ ix x (ix a (k : Int)).to ∧ ix x (ix a (k : Int)).to < 2147483647 := by rw [J]; exact b _ (bJ (by omega))
      have F : 0 ≤ ix data (ix a (k : Int)).from_ ∧ ix data (ix a (k : Int)).from_ < 2147483647 := by rw [G]; exact L _ (bJ (by omega))
      refine ⟨(x.set (ix a (k : Int)).to.toNat ((ix x (ix a (k : Int)).to + ix data (ix a (k : Int)).from_) % 2147483647), ((k + 1 : Nat) : Int)), ?_, rfl, by simpa using j, f8 b (mc _), fun q u => ?_⟩
      · simp only [Z0b_L1]
        rw [if_pos (by simp; omega), if_pos (by omega), if_pos (by simp; omega), if_pos p1, lm E F, Option.bind_some, cR (by unfold cP; omega)]
      · dsimp only
        rw [List.take_succ_eq_append_getElem I, ← cB I, iu, ← m q u]
        simp only [ps]
        rw [J, Int.toNat_natCast]
        by_cases e : t = q
        · subst e
          rw [fJ (by omega), if_pos rfl]
        · rw [kD e, if_neg (by omega)])
    (fun s D => by
      obtain ⟨x, i⟩ := s
      obtain ⟨g, j, b, m⟩ := D
      dsimp only at g j b m
      subst g
      refine ⟨x, ?_, j, b, fun q u => by rw [m q u, List.take_length]⟩
      simp only [Z0b_L1]
      rw [if_neg (by simp)])
    (s := (List.replicate (pr ds).toNat 0, 0)) ⟨rfl, by simp; omega, fun y U => by rw [(List.mem_replicate.1 U).2]; omega, fun q u => by
      dsimp only
      rw [cB (by simp; omega)]; simp [ps]⟩
  rw [h1]
  exact ⟨r, rfl, h2⟩
theorem nO {ds is : List Int} (g : IV ds is) {j : Nat} (b : j < ds.length) : fA ds is = (fA (ds.take j) (is.take j) * ix ds (j : Int) + ix is (j : Int)) * pr (ds.drop (j + 1)) + fA (ds.drop (j + 1)) (is.drop (j + 1)) := by
  induction ds generalizing is j with
  | nil => simp at b
  | cons d ds ih => cases is with
    | nil => exact g.elim
    | cons i is => cases j with
      | zero => simp [fA, ix]
      | succ j =>
        have h1 := ih g.2 (j := j) (by simpa using b)
        have h : pr ds = pr (ds.take j) * (ix ds (j : Int) * pr (ds.drop (j + 1))) := by
          have e : ds = ds.take j ++ (ix ds (j : Int) :: ds.drop (j + 1)) := by
            have a : j < ds.length := by simpa using b
            rw [cB a]
            exact (List.take_append_drop j ds).symm.trans (by rw [List.drop_eq_getElem_cons a])
          conv => lhs; rw [e]
          rw [gr]; rfl
        simp only [List.take_succ_cons, List.drop_succ_cons, fA, eK]
        rw [h1, h]
        simp only [Int.add_mul, Int.mul_assoc]
        omega
def sX (data : List Int) (F : Int → Int) (T : Int) : Int → List pair → Int
  | s, [] => s
  | s, p :: l => sX data F T (if p.to = T then (s + ix data (F p.from_)) % 2147483647 else s) l
theorem nP (data : List Int) (F : Int → Int) (T : Int) : ∀ (A B : List pair) (s : Int), sX data F T s (A ++ B) = sX data F T (sX data F T s A) B
  | [], _, _ => rfl
  | p :: A, B, s => nP data F T A B _
theorem uq {b x y j k : Int} (a : 0 < b) (g : 0 ≤ j ∧ j < b) (i : 0 ≤ k ∧ k < b) (h : x * b + j = y * b + k) : x = y ∧ j = k := by
  have e : x = y := by
    rcases Int.lt_trichotomy x y with c | c | c
    · have : (x + 1) * b ≤ y * b := Int.mul_le_mul_of_nonneg_right (by omega) (by omega)
      rw [Int.add_mul] at this; omega
    · exact c
    · have : (y + 1) * b ≤ x * b := Int.mul_le_mul_of_nonneg_right (by omega) (by omega)
      rw [Int.add_mul] at this; omega
  subst e
  exact ⟨rfl, by omega⟩
theorem ur {data : List Int} {l n I T J : Int} {b : Nat} (i : 0 ≤ J ∧ J < (b : Int)) {p : pair} (s : Int) :
    ps data ((I * n + T) * (b : Int) + J) s (qP l n b I p) = if p.to = T then (s + ix data ((I * l + p.from_) * (b : Int) + J)) % 2147483647 else s := by
  unfold qP
  by_cases c : p.to = T
  · rw [if_pos c]
    obtain ⟨a, rfl⟩ := Int.eq_ofNat_of_zero_le i.1
    have j : a < b := by omega
    have e : List.range b = List.range a ++ a :: (List.range (b - (a + 1))).map (fun x => a + 1 + x) := by
      have h1 : b = a + (1 + (b - (a + 1))) := by omega
      conv => lhs; rw [h1]
      rw [List.range_add, List.range_add]
      simp [Function.comp_def, Nat.add_assoc]
    rw [e, List.map_append, iu, me (A := (List.range a).map _), List.map_cons]
    · have m : (rV l n (b : Int) I p a).to = (I * n + T) * (b : Int) + (a : Int) := by simp only [rV, c]
      simp only [ps]
      rw [if_pos m]
      refine me fun x g => ?_
      obtain ⟨y, h, rfl⟩ := List.mem_map.1 g
      obtain ⟨z, _, rfl⟩ := List.mem_map.1 h
      simp only [rV, c]
      omega
    · intro x g
      obtain ⟨y, h, rfl⟩ := List.mem_map.1 g
      have := List.mem_range.1 h
      simp only [rV, c]
      omega
  · rw [if_neg c]
    refine me fun x g => ?_
    obtain ⟨y, h, rfl⟩ := List.mem_map.1 g
    have := List.mem_range.1 h
    intro q
    simp only [rV] at q
    have := (uq (b := (b : Int)) (by omega) (by omega) i q).1
    exact c (by omega)
theorem qp {data : List Int} {l n I T J : Int} {b : Nat} (e : 0 ≤ J ∧ J < (b : Int)) : ∀ (a : List pair) (s : Int),
    ps data ((I * n + T) * (b : Int) + J) s (ov l n b a I) = sX data (fun x => (I * l + x) * (b : Int) + J) T s a
  | [], _ => rfl
  | p :: a, s => by
    have : ov l n b (p :: a) I = qP l n b I p ++ ov l n b a I := rfl
    rw [this, iu, ur e, qp e a]
    rfl
theorem us {data : List Int} {l n I i T J : Int} {b : Nat} (j : 0 ≤ J ∧ J < (b : Int)) (m : 0 ≤ T ∧ T < n) (e : i ≠ I) {a : List pair} (u : ∀ p ∈ a, 0 ≤ p.to ∧ p.to < n) (s : Int) :
    ps data ((I * n + T) * (b : Int) + J) s (ov l n b a i) = s := by
  refine me fun x h => ?_
  obtain ⟨p, g, h⟩ := List.mem_flatMap.1 h
  obtain ⟨y, D, rfl⟩ := List.mem_map.1 h
  have := List.mem_range.1 D
  intro q
  simp only [rV] at q
  have h1 := (uq (b := (b : Int)) (by omega) (by omega) j q).1
  exact e (uq (b := n) (by omega) (u p g) m h1).1
theorem ut {data : List Int} {l n T J : Int} {a b I : Nat} (F : I < a) (q : 0 ≤ J ∧ J < (b : Int)) (u : 0 ≤ T ∧ T < n) {g : List pair} (D : ∀ p ∈ g, 0 ≤ p.to ∧ p.to < n) (s : Int) :
    ps data (((I : Int) * n + T) * (b : Int) + J) s (rW a l n b g) = sX data (fun x => ((I : Int) * l + x) * (b : Int) + J) T s g := by
  unfold rW
  have j : ∀ (L : List Nat) (s : Int), (∀ i ∈ L, i ≠ I) → ps data (((I : Int) * n + T) * (b : Int) + J) s (L.flatMap fun i : Nat => ov l n b g (i : Int)) = s := by
    intro L
    induction L with
    | nil => intro s _; rfl
    | cons i L ih =>
      intro s h
      rw [List.flatMap_cons, iu, us q u (by have := h i (by simp); omega) D, ih s fun x E => h x (by simp [E])]
  have e : List.range a = List.range I ++ I :: (List.range (a - (I + 1))).map (fun x => I + 1 + x) := by
    have h1 : a = I + (1 + (a - (I + 1))) := by omega
    conv => lhs; rw [h1]
    rw [List.range_add, List.range_add]
    simp [Function.comp_def, Nat.add_assoc]
  rw [e, List.flatMap_append, iu, j (List.range I) s fun i m => by have := List.mem_range.1 m; omega, List.flatMap_cons, iu, qp q, j ((List.range (a - (I + 1))).map fun x => I + 1 + x) _ fun i m => by
    obtain ⟨x, _, rfl⟩ := List.mem_map.1 m
    omega]
def gF (l : Nat) (b g : Int) : List pair := (List.range l).map fun k : Nat => ⟨(k : Int), b + (k : Int) * (g + 1)⟩
theorem nQ {data : List Int} (E : ∀ x ∈ data, 0 ≤ x ∧ x < 2147483647) {F : Int → Int} {b g T : Int} (J : 0 ≤ g) : ∀ l : Nat, (∀ k : Nat, k < l → 0 ≤ F (k : Int) ∧ F (k : Int) < (data.length : Int)) →
    sX data F T 0 (gF l b g) = if b ≤ T ∧ (T - b) % (g + 1) = 0 ∧ (T - b) / (g + 1) < (l : Int) then ix data (F ((T - b) / (g + 1))) else 0
  | 0, _ => by
    rw [if_neg]
    · rfl
    · rintro ⟨h1, _, U⟩
      have := Int.ediv_nonneg (show 0 ≤ T - b by omega) (show 0 ≤ g + 1 by omega)
      omega
  | l + 1, hF => by
    have L := nQ E (F := F) (b := b) (T := T) J l fun k hk => hF k (by omega)
    have e : gF (l + 1) b g = gF l b g ++ [⟨(l : Int), b + (l : Int) * (g + 1)⟩] := by
      unfold gF; rw [List.range_succ, List.map_append]; rfl
    rw [e, nP, L]
    simp only [sX]
    have j := Int.mul_ediv_add_emod (T - b) (g + 1)
    by_cases c : b + (l : Int) * (g + 1) = T
    · rw [if_pos c]
      have D : T - b = (g + 1) * (l : Int) := by rw [Int.mul_comm]; omega
      have a : (T - b) / (g + 1) = (l : Int) := by rw [D]; exact Int.mul_ediv_cancel_left _ (by omega)
      have G : (T - b) % (g + 1) = 0 := by rw [D]; exact Int.mul_emod_right _ _
      have M : 0 ≤ (l : Int) * (g + 1) := Int.mul_nonneg (by omega) (by omega)
      have i := hF l (by omega)
      obtain ⟨I, m⟩ := Int.eq_ofNat_of_zero_le i.1
      have u := E _ (bJ (xs := data) (k := I) (by omega))
      rw [← m] at u
      rw [if_neg (by rw [a]; omega), if_pos ⟨by omega, G, by rw [a]; omega⟩, a, Int.zero_add, Int.emod_eq_of_lt u.1 u.2]
    · rw [if_neg c]
      have : (b ≤ T ∧ (T - b) % (g + 1) = 0 ∧ (T - b) / (g + 1) < (l : Int)) ↔ (b ≤ T ∧ (T - b) % (g + 1) = 0 ∧ (T - b) / (g + 1) < ((l + 1 : Nat) : Int)) := by
        refine ⟨fun h => ⟨h.1, h.2.1, by omega⟩, fun h => ⟨h.1, h.2.1, ?_⟩⟩
        by_cases q : (T - b) / (g + 1) = (l : Int)
        · rw [q, h.2.1, Int.mul_comm] at j; omega
        · omega
      by_cases q : b ≤ T ∧ (T - b) % (g + 1) = 0 ∧ (T - b) / (g + 1) < (l : Int)
      · rw [if_pos q, if_pos (this.1 q)]
      · rw [if_neg q, if_neg fun z => q (this.2 z)]
theorem uu {ds : List Int} (h : eL ds) {j : Nat} {b f g : Int} (ok : hZ ds (j : Int) b f g) :
    Za ds (j : Int) b f g = some (ds.set j (fb ds (j : Int) b f g), rW (pr (ds.take j)).toNat (ix ds (j : Int)) (fb ds (j : Int) b f g) (pr (ds.drop (j + 1))).toNat (gF (ix ds (j : Int)).toNat b g), true) := by
  have hn := h.1
  obtain ⟨G, I, c1, c2, c3, c4, E, J, D⟩ := ok
  have g1 : 0 ≤ (j : Int) ∧ (j : Int) < (ds.length : Int) := ⟨G, I⟩
  rw [Int.toNat_natCast] at D
  have m : j < ds.length := by omega
  have hm := h.2.mem (bJ m)
  unfold Za
  simp only [Z0s, Option.bind_some]
  rw [if_neg (by simp; omega)]
  have lp := eP [b, f, g] (fun s : Int => Za_L1 b f g s) (fun i => i) (fun x => !(decide (x < 0) || decide (x > 4096))) (.inl (([] : List Int), ([] : List pair), false)) (.inr ())
    (fun k a => by
      simp only [List.length_cons, List.length_nil] at a
      simp only [Za_L1]
      rw [if_pos (by simp; omega), if_pos (by simp; omega), cR (by unfold cP; omega)]
      cases (decide (ix [b, f, g] (k : Int) < 0) || decide (ix [b, f, g] (k : Int) > 4096)) <;> rfl)
    (by simp only [Za_L1]; rw [if_neg (by simp)])
  rw [lp]
  have L : ([b, f, g].all fun x => !(decide (x < 0) || decide (x > 4096))) = true := by
    rw [List.all_eq_true]
    intro x hx
    have : x = b ∨ x = f ∨ x = g := by simpa using hx
    simp; rcases this with rfl | rfl | rfl <;> omega
  rw [L]
  simp only [if_true, Option.bind_some, Za_J1]
  have k0 : 0 ≤ (ix ds (j : Int) - 1) * g := Int.mul_nonneg (by omega) E
  have k1 := Int.mul_le_mul (show ix ds (j : Int) - 1 ≤ 4096 by omega) J E (show (0 : Int) ≤ 4096 by omega)
  have e : aG (aG (aG (b + ix ds (j : Int)) + aG (aG (ix ds (j : Int) - 1) * g)) + f) = fb ds (j : Int) b f g := by
    rw [aX (n := b + ix ds (j : Int)) (by omega) (by omega), aX (n := ix ds (j : Int) - 1) (by omega) (by omega), aX (n := (ix ds (j : Int) - 1) * g) (by omega) (by omega), aX (n := b + ix ds (j : Int) + (ix ds (j : Int) - 1) * g) (by omega) (by omega), aX (by omega) (by omega)]
    rfl
  have M := D.2.mem (bJ (xs := ds.set j (fb ds (j : Int) b f g)) (k := j) (by simpa using m))
  rw [fJ m] at M
  have T : fb ds (j : Int) b f g = b + ix ds (j : Int) + (ix ds (j : Int) - 1) * g + f := rfl
  rw [if_pos g1, e, pQ hn m]
  simp only [Option.bind_some]
  rw [f' (by simp [cP]; omega)]
  simp only [decide_eq_true D, Option.bind_some, Bool.not_true, Bool.false_eq_true, if_false]
  have u : ∀ k : Nat, k < (ix ds (j : Int)).toNat → 0 ≤ (k : Int) * (g + 1) ∧ (k : Int) * (g + 1) ≤ (ix ds (j : Int) - 1) * g + (ix ds (j : Int) - 1) := by
    intro k a
    have m1 : (k : Int) * (g + 1) ≤ (ix ds (j : Int) - 1) * (g + 1) := Int.mul_le_mul_of_nonneg_right (by omega) (by omega)
    rw [Int.mul_add (ix ds (j : Int) - 1)] at m1
    exact ⟨Int.mul_nonneg (by omega) (by omega), by omega⟩
  rw [dN (f := fun s : List pair × Int => Za_L2 ds (j : Int) b g s.1 s.2) (s := ([], 0)) (r := gF (ix ds (j : Int)).toNat b g) (fun q => (gF q b g, (q : Int))) (ix ds (j : Int)).toNat
    (fun q hq => by
      have ht := u q hq
      have U : (gF q b g).length = q := by simp [gF]
      simp only [Za_L2]
      rw [if_pos (by simp; omega), if_pos (by simp [U]; omega), cR (by unfold cP; omega), aX (n := g + 1) (by omega) (by omega), aX (n := (q : Int) * (g + 1)) (by omega) (by omega), aX (n := b + _) (by omega) (by omega)]
      unfold gF
      rw [List.range_succ, List.map_append]
      rfl)
    (by
      simp only [Za_L2]
      rw [if_neg (by simp; omega)]) rfl]
  simp only [Option.bind_some, Za_J2]
  rw [e, rX h m (by omega) (by simp [gF]; omega) (fun p F => by
    unfold gF at F
    obtain ⟨k, a, rfl⟩ := List.mem_map.1 F
    have a := List.mem_range.1 a
    have := u k a
    dsimp only
    omega)]
  rfl
theorem qq {ds : List Int} {j : Nat} (a : j < ds.length) : pr ds = pr (ds.take j) * ix ds (j : Int) * pr (ds.drop (j + 1)) := by
  have e : ds = ds.take j ++ (ix ds (j : Int) :: ds.drop (j + 1)) := by
    rw [cB a]
    exact (List.take_append_drop j ds).symm.trans (by rw [List.drop_eq_getElem_cons a])
  conv => lhs; rw [e]
  rw [gr, Int.mul_assoc]; rfl
theorem qr {ds is : List Int} (h : IV ds is) {j : Nat} (a : j < ds.length) : IV (ds.take j) (is.take j) ∧ (0 ≤ ix is (j : Int) ∧ ix is (j : Int) < ix ds (j : Int)) ∧ IV (ds.drop (j + 1)) (is.drop (j + 1)) := by
  induction ds generalizing is j with
  | nil => simp at a
  | cons d ds ih => cases is with
    | nil => exact h.elim
    | cons i is => cases j with
      | zero => exact ⟨trivial, h.1, h.2⟩
      | succ j =>
        obtain ⟨h1, h2, b⟩ := ih h.2 (j := j) (by simpa using a)
        refine ⟨⟨h.1, h1⟩, ?_, b⟩
        rw [eK, eK]; exact h2
theorem qt {t : Tensor} (h : TT t) {j : Nat} {b f g : Int} (ok : hZ t.Dims (j : Int) b f g) :
    ∃ x, Z0e t (j : Int) b f g = some ⟨t.Dims.set j (fb t.Dims (j : Int) b f g), x⟩ ∧ TOk (t.Dims.set j (fb t.Dims (j : Int) b f g)) x ∧
      ∀ is, IV (t.Dims.set j (fb t.Dims (j : Int) b f g)) is → ix x (fA (t.Dims.set j (fb t.Dims (j : Int) b f g)) is) =
        if b ≤ ix is (j : Int) ∧ (ix is (j : Int) - b) % (g + 1) = 0 ∧ (ix is (j : Int) - b) / (g + 1) < ix t.Dims (j : Int) then ix t.Data (fA t.Dims (is.set j ((ix is (j : Int) - b) / (g + 1)))) else 0 := by
  obtain ⟨a1, a2, c1, c2, c3, c4, c5, c6, M⟩ := id ok
  rw [Int.toNat_natCast] at M
  have u : j < t.Dims.length := by omega
  have hm := h.d.2.mem (bJ u)
  obtain ⟨N, hN⟩ : ∃ N, N = fb t.Dims (j : Int) b f g := ⟨_, rfl⟩
  have F := uu h.d ok
  rw [← hN] at F M ⊢
  have a8 := M.2.mem (bJ (xs := t.Dims.set j N) (k := j) (by simpa using u))
  rw [fJ u] at a8
  obtain ⟨a, ha⟩ : ∃ a : Nat, (a : Int) = pr (t.Dims.take j) := ⟨(pr (t.Dims.take j)).toNat, by have := (h.d.2.take j).pos; omega⟩
  obtain ⟨e, hb⟩ : ∃ b : Nat, (b : Int) = pr (t.Dims.drop (j + 1)) := ⟨(pr (t.Dims.drop (j + 1))).toNat, by have := (h.d.2.drop (j + 1)).pos; omega⟩
  have ea : (pr (t.Dims.take j)).toNat = a := by omega
  have eb : (pr (t.Dims.drop (j + 1))).toNat = e := by omega
  have G : (t.Dims.set j N).take j = t.Dims.take j := by rw [List.take_set_of_le (Nat.le_refl j)]
  have J : (t.Dims.set j N).drop (j + 1) = t.Dims.drop (j + 1) := by rw [List.drop_set_of_lt (by omega)]
  have pd : pr t.Dims = (a : Int) * ix t.Dims (j : Int) * (e : Int) := by rw [qq u, ha, hb]
  have pN : pr (t.Dims.set j N) = (a : Int) * N * (e : Int) := by rw [qq (by simpa using u), G, J, fJ u, ha, hb]
  rw [ea, eb] at F
  have a6 : ∀ p ∈ gF (ix t.Dims (j : Int)).toNat b g, (0 ≤ p.from_ ∧ p.from_ < ix t.Dims (j : Int)) ∧ 0 ≤ p.to ∧ p.to < N := by
    intro p D
    unfold gF at D
    obtain ⟨k, T, rfl⟩ := List.mem_map.1 D
    have T := List.mem_range.1 T
    have m1 : (k : Int) * (g + 1) ≤ (ix t.Dims (j : Int) - 1) * (g + 1) := Int.mul_le_mul_of_nonneg_right (by omega) (by omega)
    rw [Int.mul_add (ix t.Dims (j : Int) - 1)] at m1
    have m0 : 0 ≤ (k : Int) * (g + 1) := Int.mul_nonneg (by omega) (by omega)
    have : N = b + ix t.Dims (j : Int) + (ix t.Dims (j : Int) - 1) * g + f := hN
    dsimp only
    omega
  have ac : (gF (ix t.Dims (j : Int)).toNat b g).length = (ix t.Dims (j : Int)).toNat := by simp [gF]
  have a9 : ∀ p ∈ rW a (ix t.Dims (j : Int)) N e (gF (ix t.Dims (j : Int)).toNat b g), (0 ≤ p.from_ ∧ p.from_ < (t.Data.length : Int)) ∧ 0 ≤ p.to ∧ p.to < pr (t.Dims.set j N) := by
    intro p D
    unfold rW at D
    obtain ⟨i, E, D⟩ := List.mem_flatMap.1 D
    obtain ⟨q, hq, D⟩ := List.mem_flatMap.1 D
    obtain ⟨k, T, rfl⟩ := List.mem_map.1 D
    have E := List.mem_range.1 E
    have T := List.mem_range.1 T
    obtain ⟨q1, q2⟩ := a6 q hq
    have a7 : ∀ L x : Int, 0 ≤ x → x < L → 0 ≤ ((i : Int) * L + x) * (e : Int) + (k : Int) ∧ ((i : Int) * L + x) * (e : Int) + (k : Int) < (a : Int) * L * (e : Int) := by
      intro L x ag ah
      have m1 : 0 ≤ (i : Int) * L := Int.mul_nonneg (by omega) (by omega)
      have m2 : ((i : Int) + 1) * L ≤ (a : Int) * L := Int.mul_le_mul_of_nonneg_right (by omega) (by omega)
      rw [Int.add_mul] at m2
      have m3 : 0 ≤ ((i : Int) * L + x) * (e : Int) := Int.mul_nonneg (by omega) (by omega)
      have m4 : ((i : Int) * L + x + 1) * (e : Int) ≤ (a : Int) * L * (e : Int) := Int.mul_le_mul_of_nonneg_right (by omega) (by omega)
      rw [Int.add_mul _ 1] at m4
      omega
    simp only [rV]
    rw [h.l, pd, pN]
    exact ⟨a7 _ _ q1.1 q1.2, a7 _ _ q2.1 q2.2⟩
  have U : (rW a (ix t.Dims (j : Int)) N e (gF (ix t.Dims (j : Int)).toNat b g)).length ≤ 1099511627776 := by
    unfold rW
    rw [j7 (m := (ix t.Dims (j : Int)).toNat * e) fun i _ => by
      unfold ov
      rw [j7 (m := e) fun p _ => by simp [qP], ac], List.length_range]
    have ae := h.d.2.2
    have h1 : (a * ((ix t.Dims (j : Int)).toNat * e) : Nat) = (pr t.Dims).toNat := by
      have : ((a * ((ix t.Dims (j : Int)).toNat * e) : Nat) : Int) = pr t.Dims := by
        rw [pd, Int.natCast_mul, Int.natCast_mul, Int.toNat_of_nonneg (by omega), Int.mul_assoc]
      omega
    omega
  obtain ⟨x, x1, x2, x3, x4⟩ := rY (data := t.Data) M h.x U a9
  refine ⟨x, ?_, ⟨M, x2, x3⟩, fun is E => ?_⟩
  · unfold Z0e Z19 Z1c
    rw [qn h]
    simp only [Option.bind_some, Bool.not_true, Bool.false_eq_true, if_false]
    rw [F]
    simp only [Option.bind_some, Bool.not_true, Bool.false_eq_true, if_false]
    rw [x1]
    rfl
  · obtain ⟨i1, i2, i3⟩ := qr E (j := j) (by simpa using u)
    rw [G] at i1
    rw [J] at i3
    rw [fJ u] at i2
    have a4 := fp (fun d hd => h.d.2.1 d (List.mem_of_mem_take hd)) i1
    have a5 := fp (fun d hd => h.d.2.1 d (List.mem_of_mem_drop hd)) i3
    rw [← ha] at a4
    rw [← hb] at a5
    obtain ⟨I, hI⟩ := Int.eq_ofNat_of_zero_le a4.1
    have ho := nO E (j := j) (by simpa using u)
    rw [G, J, fJ u, ← hb, hI] at ho
    have ab := fp M.2.1 E
    obtain ⟨q, hq⟩ := Int.eq_ofNat_of_zero_le ab.1
    rw [hq, x4 q (by omega), ← hq, ho, ut (by omega) a5 i2 (fun p D => (a6 p D).2), nQ h.x c5]
    · have el : (((ix t.Dims (j : Int)).toNat : Nat) : Int) = ix t.Dims (j : Int) := Int.toNat_of_nonneg (by omega)
      rw [el]
      by_cases c : b ≤ ix is (j : Int) ∧ (ix is (j : Int) - b) % (g + 1) = 0 ∧ (ix is (j : Int) - b) / (g + 1) < ix t.Dims (j : Int)
      · rw [if_pos c, if_pos c]
        have a0 := E.len
        rw [List.length_set] at a0
        have aa : IV t.Dims (is.set j ((ix is (j : Int) - b) / (g + 1))) := pO u E (Int.ediv_nonneg (by omega) (by omega)) c.2.2
        have a3 := nO aa u
        rw [List.take_set_of_le (Nat.le_refl j), List.drop_set_of_lt (by omega), fJ (by omega), ← hb, hI] at a3
        rw [a3]
      · rw [if_neg c, if_neg c]
    · intro k T
      have m1 : 0 ≤ (I : Int) * ix t.Dims (j : Int) := Int.mul_nonneg (by omega) (by omega)
      have m2 : ((I : Int) + 1) * ix t.Dims (j : Int) ≤ (a : Int) * ix t.Dims (j : Int) := Int.mul_le_mul_of_nonneg_right (by omega) (by omega)
      rw [Int.add_mul] at m2
      have m3 : 0 ≤ ((I : Int) * ix t.Dims (j : Int) + (k : Int)) * (e : Int) := Int.mul_nonneg (by omega) (by omega)
      have m4 : ((I : Int) * ix t.Dims (j : Int) + (k : Int) + 1) * (e : Int) ≤ (a : Int) * ix t.Dims (j : Int) * (e : Int) := Int.mul_le_mul_of_nonneg_right (by omega) (by omega)
      rw [Int.add_mul _ 1] at m4
      rw [h.l, pd]
      omega
def dE (v : View) (a sz st : Int) : View := ⟨v.Dims.set a.toNat (fD v.Dims a sz st) ++ [sz], v.Strides.set a.toNat (if fD v.Dims a sz st = 1 then 0 else ix v.Strides a * st) ++ [if sz = 1 then 0 else ix v.Strides a], v.Offset, v.Base⟩
theorem rZ {v : View} (b : VG v.Dims v.Strides v.Offset v.Base) (a : Int) : Z1a v a = some (decide (0 ≤ a ∧ a < (v.Dims.length : Int))) := by
  unfold Z1a
  rw [mO b]
  simp only [Option.bind_some, Bool.true_and]
  congr 1
  rw [Bool.eq_iff_iff]
  simp
theorem uv {v : View} (h : VG v.Dims v.Strides v.Offset v.Base) (i : ∀ s ∈ v.Strides, 0 ≤ s) {j : Nat} (g : j < v.Dims.length) : ix v.Strides (j : Int) * (ix v.Dims (j : Int) - 1) ≤ zs hw v.Dims v.Strides := by
  have e : j < v.Strides.length := by rw [h.l]; exact g
  have m := h.d.2.mem (bJ g)
  have z := l9 hw (xs := v.Dims) (ys := v.Strides) (j := j) (a := 1) (b := 0) g e
  rw [kb m.1 (i _ (bJ e)), hw0] at z
  have := ws (xs := v.Dims.set j 1) (ys := v.Strides.set j 0) (f8 h.d.2.1 (by omega)) (f8 i (by omega))
  omega
theorem iS {v : View} (i : VG v.Dims v.Strides v.Offset v.Base) (h0 : ∀ s ∈ v.Strides, 0 ≤ s) {a sz st : Int} (I : gU v.Dims a sz st) (M : eL (dE v a sz st).Dims) : VG (dE v a sz st).Dims (dE v a sz st).Strides (dE v a sz st).Offset (dE v a sz st).Base := by
  have h := i.d
  have sm : ∀ s ∈ v.Strides, 0 ≤ s ∧ s ≤ 4096 := fun s q => ⟨h0 s q, (i.s s q).2⟩
  have a0 := i.o
  obtain ⟨n1, n2, n3⟩ := jE I
  obtain ⟨h1, h2, h3, h4, h5⟩ := I
  obtain ⟨j, rfl⟩ := Int.eq_ofNat_of_zero_le h1
  have T : j < v.Dims.length := by omega
  have G := i.l
  have hm := h.2.mem (bJ T)
  have q := sm _ (bJ (xs := v.Strides) (k := j) (by omega))
  have hp := h.2.pos
  have a3 := h.2.2
  have ax := uv i h0 T
  have a2 := i.b
  have a1 := i.hi
  obtain ⟨n, U⟩ : ∃ n, n = fD v.Dims (j : Int) sz st := ⟨_, rfl⟩
  obtain ⟨s, F⟩ : ∃ s, s = ix v.Strides (j : Int) := ⟨_, rfl⟩
  have e1 : (dE v (j : Int) sz st).Dims = v.Dims.set j n ++ [sz] := by rw [U]; simp [dE]
  have e2 : (dE v (j : Int) sz st).Strides = v.Strides.set j (if n = 1 then 0 else s * st) ++ [if sz = 1 then 0 else s] := by rw [U, F]; simp [dE]
  rw [← U] at n1 n2 n3
  rw [← F] at q ax
  rw [e1] at M
  have k0 : 0 ≤ (n - 1) * st := Int.mul_nonneg (by omega) (by omega)
  have k3 : 0 ≤ s * st := Int.mul_nonneg q.1 (by omega)
  have k4 : s * ((n - 1) * st) = s * st * (n - 1) := by rw [Int.mul_comm (n - 1) st, Int.mul_assoc]
  have k5 : s * ((n - 1) * st + (sz - 1)) ≤ s * (ix v.Dims (j : Int) - 1) := Int.mul_le_mul_of_nonneg_left (by omega) q.1
  rw [Int.mul_add, k4] at k5
  have k6 : 0 ≤ s * (sz - 1) := Int.mul_nonneg q.1 (by omega)
  have k7 : 0 ≤ s * st * (n - 1) := Int.mul_nonneg k3 (by omega)
  obtain ⟨m, D⟩ : ∃ m, m = if n = 1 then 0 else s * st := ⟨_, rfl⟩
  obtain ⟨g, E⟩ : ∃ g, g = if sz = 1 then 0 else s := ⟨_, rfl⟩
  have J : 0 ≤ m ∧ m ≤ 4096 ∧ m * (n - 1) = s * st * (n - 1) := by
    by_cases c : n = 1
    · rw [D, if_pos c, c]; simp
    · rw [D, if_neg c]
      have : s * st * 1 ≤ s * st * (n - 1) := Int.mul_le_mul_of_nonneg_left (by omega) k3
      omega
  have L : 0 ≤ g ∧ g ≤ 4096 ∧ g * (sz - 1) = s * (sz - 1) := by
    by_cases c : sz = 1
    · rw [E, if_pos c, c]; simp
    · rw [E, if_neg c]; omega
  have z := l9 hw (xs := v.Dims) (ys := v.Strides) (a := n) (b := m) T (by omega)
  rw [← F, kb hm.1 q.1, kb n1 J.1, J.2.2] at z
  have z2 : zs hw (v.Dims.set j n ++ [sz]) (v.Strides.set j m ++ [g]) = zs hw (v.Dims.set j n) (v.Strides.set j m) + s * (sz - 1) := by
    rw [pH _ (by simp [G])]
    have : zs hw [sz] [g] = hw sz g := by simp [zs]
    rw [this, kb h3 L.1, L.2.2]
  have nn : ∀ x ∈ v.Strides.set j m ++ [g], 0 ≤ x ∧ x ≤ 4096 := by
    intro x e
    rcases List.mem_append.1 e with e | e
    · exact f8 (fun x e => sm x e) ⟨J.1, J.2.1⟩ x e
    · have : x = g := by simpa using e
      subst this; exact ⟨L.1, L.2.1⟩
  rw [e1, e2, ← D, ← E]
  have u : v.Strides.length = v.Dims.length := i.l
  refine ⟨M, by simp [u], i.b, a0, fun x e => by have := nn x e; omega, ?_, ?_⟩
  · rw [u6 M.2.1 fun x e => (nn x e).1]; show 0 ≤ v.Offset + 0; omega
  · show v.Offset + _ < v.Base
    omega
theorem gx {v : View} (b : VG v.Dims v.Strides v.Offset v.Base) (E : ∀ s ∈ v.Strides, 0 ≤ s) {a sz st : Int} : Zn v a sz st = some (if gU v.Dims a sz st ∧ eL (dE v a sz st).Dims then dE v a sz st else eX) := by
  have h := b.d
  have sm : ∀ s ∈ v.Strides, 0 ≤ s ∧ s ≤ 4096 := fun s i => ⟨E s i, (b.s s i).2⟩
  have T := b.o
  have hn := h.1
  have M := b.l
  unfold Zn
  rw [rZ b]
  simp only [Option.bind_some]
  by_cases g : (0 ≤ a ∧ a < (v.Dims.length : Int)) ∧ 1 ≤ sz ∧ 1 ≤ st
  · obtain ⟨g1, I, J⟩ := g
    have m : ((!decide (0 ≤ a ∧ a < (v.Dims.length : Int)) || decide (sz < 1)) || decide (st < 1)) = false := by simp; omega
    rw [if_pos (fun _ => g1), m, Bool.false_or]
    by_cases g6 : sz ≤ ix v.Dims a
    · have D : gU v.Dims a sz st := ⟨g1.1, g1.2, I, J, g6⟩
      obtain ⟨n1, n2, n3⟩ := jE D
      obtain ⟨j, rfl⟩ := Int.eq_ofNat_of_zero_le g1.1
      have L : j < v.Dims.length := by omega
      have hm := h.2.mem (bJ L)
      have i := sm _ (bJ (xs := v.Strides) (k := j) (by omega))
      rw [if_neg (by simp; omega)]
      unfold Z1x
      rw [io (by omega), io (by omega)]
      simp only [Option.bind_some, nm]
      have e : aG (aG ((aG (ix v.Dims (j : Int) - sz)).tdiv st) + 1) = fD v.Dims (j : Int) sz st := by
        rw [aX (n := ix v.Dims (j : Int) - sz) (by omega) (by omega), Int.tdiv_eq_ediv_of_nonneg (by omega)]
        unfold fD at n1 n2 ⊢
        rw [aX (n := (ix v.Dims (j : Int) - sz) / st) (by omega) (by omega), aX (by omega) (by omega)]
      simp only [e]
      rw [if_pos (by omega), if_pos (by omega), if_pos (by omega), if_pos (by omega), if_pos (by omega)]
      have F : ∀ x : List Int, x ++ [if sz = 1 then 0 else ix v.Strides (j : Int)] = (dE v (j : Int) sz st).Strides → x.length = v.Dims.length → Zn_J1 v (j : Int) sz ⟨v.Dims, v.Strides, v.Offset, v.Base⟩ (v.Dims.set (j : Int).toNat (fD v.Dims (j : Int) sz st)) x = some (if gU v.Dims (j : Int) sz st ∧ eL (dE v (j : Int) sz st).Dims then dE v (j : Int) sz st else eX) := by
        intro x U a0
        have G : ∀ y, y = (if sz = 1 then 0 else ix v.Strides (j : Int)) → Zn_J2 sz ⟨v.Dims, v.Strides, v.Offset, v.Base⟩ (v.Dims.set (j : Int).toNat (fD v.Dims (j : Int) sz st)) x y = some (if gU v.Dims (j : Int) sz st ∧ eL (dE v (j : Int) sz st).Dims then dE v (j : Int) sz st else eX) := by
          rintro y rfl
          simp only [Zn_J2]
          rw [if_pos (by simp; omega), U]
          have u : (⟨v.Dims.set (j : Int).toNat (fD v.Dims (j : Int) sz st) ++ [sz], (dE v (j : Int) sz st).Strides, v.Offset, v.Base⟩ : View) = dE v (j : Int) sz st := rfl
          rw [u]
          unfold Z1y
          by_cases q : eL (dE v (j : Int) sz st).Dims
          · rw [mO (iS b E D q), if_pos ⟨D, q⟩]
            rfl
          · rw [pJ (by simp [dE, cP]; omega) q, if_neg (fun z => q z.2)]
            rfl
        simp only [Zn_J1]
        rw [if_pos (by simp; omega)]
        by_cases q : sz = 1
        · rw [if_pos (by simp [q])]; exact G _ (by simp [q])
        · rw [if_neg (by simp [q])]; exact G _ (by simp [q])
      by_cases q : fD v.Dims (j : Int) sz st = 1
      · rw [if_neg (by simp; omega)]
        exact F _ (by simp [dE, q]) (by simp; omega)
      · have k : (fD v.Dims (j : Int) sz st - 1) * st ≤ 4096 := by omega
        have k2 : 1 * st ≤ (fD v.Dims (j : Int) sz st - 1) * st := Int.mul_le_mul_of_nonneg_right (by omega) (by omega)
        have f3 : 0 ≤ ix v.Strides (j : Int) * st := Int.mul_nonneg i.1 (by omega)
        have f4 := Int.mul_le_mul i.2 (show st ≤ 4096 by omega) (by omega) (show (0 : Int) ≤ 4096 by omega)
        rw [if_pos (by simp; omega), aX (n := ix v.Strides (j : Int) * st) (by omega) (by omega), List.set_set]
        exact F _ (by simp [dE, q]) (by simp; omega)
    · rw [if_pos (by simp; omega), if_neg (fun q => g6 q.1.2.2.2.2)]
      rfl
  · have m : ((!decide (0 ≤ a ∧ a < (v.Dims.length : Int)) || decide (sz < 1)) || decide (st < 1)) = true := by
      simp only [Bool.or_eq_true, Bool.not_eq_true', decide_eq_true_eq, decide_eq_false_iff_not]
      omega
    rw [if_pos (fun q => by rw [m] at q; cases q), m, if_pos (by simp), if_neg (fun q => g ⟨⟨q.1.1, q.1.2.1⟩, q.1.2.2.1, q.1.2.2.2.1⟩)]
    rfl
theorem gy {v : View} (i : VG v.Dims v.Strides v.Offset v.Base) (I : ∀ s ∈ v.Strides, 0 ≤ s) {a sz st : Int} : Z0o v a sz st = some (if gU v.Dims a sz st ∧ eL (dE v a sz st).Dims then dE v a sz st else eX) := by
  have h := i.d
  have sm : ∀ s ∈ v.Strides, 0 ≤ s ∧ s ≤ 4096 := fun s u => ⟨I s u, (i.s s u).2⟩
  have a0 := i.o
  have hn := h.1
  have U := i.l
  unfold Z0o Z1g
  rw [mP (i)]
  simp only [Option.bind_some, Bool.not_true, Bool.false_eq_true, if_false]
  rw [gu (by omega), gu (by omega)]
  simp only [Option.bind_some]
  unfold Z0p
  simp only [Z0s, Option.bind_some]
  by_cases g : (0 ≤ a ∧ a < (v.Dims.length : Int)) ∧ 1 ≤ sz ∧ 1 ≤ st
  · obtain ⟨g1, M, T⟩ := g
    rw [if_pos (fun _ => g1)]
    by_cases g6 : sz ≤ ix v.Dims a
    · have E : gU v.Dims a sz st := ⟨g1.1, g1.2, M, T, g6⟩
      obtain ⟨n1, n2, n3⟩ := jE E
      obtain ⟨j, rfl⟩ := Int.eq_ofNat_of_zero_le g1.1
      have J : j < v.Dims.length := by omega
      have hm := h.2.mem (bJ J)
      have u := sm _ (bJ (xs := v.Strides) (k := j) (by omega))
      rw [if_neg (by simp; omega), if_pos (by omega), if_pos g1, if_pos (by omega)]
      have e : aG (aG ((aG (ix v.Dims (j : Int) - sz)).tdiv st) + 1) = fD v.Dims (j : Int) sz st := by
        rw [aX (n := ix v.Dims (j : Int) - sz) (by omega) (by omega), Int.tdiv_eq_ediv_of_nonneg (by omega)]
        unfold fD at n1 n2 ⊢
        rw [aX (n := (ix v.Dims (j : Int) - sz) / st) (by omega) (by omega), aX (by omega) (by omega)]
      have L : ∀ z : Int, (z = if fD v.Dims (j : Int) sz st = 1 then 0 else st) → Z0p_J3 ⟨v.Dims, v.Strides, v.Offset, v.Base⟩ (j : Int) sz st z = some (true, dE v (j : Int) sz st, z) := by
        intro z D
        have b : 0 ≤ z ∧ z ≤ 4096 := by
          by_cases q : fD v.Dims (j : Int) sz st = 1
          · rw [D, if_pos q]; omega
          · have k2 : 1 * st ≤ (fD v.Dims (j : Int) sz st - 1) * st := Int.mul_le_mul_of_nonneg_right (by omega) (by omega)
            rw [D, if_neg q]; omega
        have f3 : 0 ≤ ix v.Strides (j : Int) * z := Int.mul_nonneg u.1 b.1
        have f4 := Int.mul_le_mul u.2 b.2 b.1 (show (0 : Int) ≤ 4096 by omega)
        simp only [Z0p_J3, e]
        rw [aX (by omega) (by omega), sH (by simpa using J) (by simp; omega)]
        simp only [Option.bind_some]
        rw [wt (by simp; omega) (by simp; omega)]
        simp only [Option.bind_some, dE, Int.toNat_natCast]
        congr 6
        rw [D]; split <;> rfl
      have m : ∀ z : Int, (cT (!(!((true, dE v (j : Int) sz st, z) : Bool × View × Int).1)) (Zo ((true, dE v (j : Int) sz st, z) : Bool × View × Int).2.1)).bind (fun F : Bool => if ((!((true, dE v (j : Int) sz st, z) : Bool × View × Int).1) || (!F)) = true then some ((⟨[], [], 0, 0⟩ : View), z) else some (dE v (j : Int) sz st, z)) = some ((if gU v.Dims (j : Int) sz st ∧ eL (dE v (j : Int) sz st).Dims then dE v (j : Int) sz st else eX), z) := by
        intro z
        simp only [cT, Bool.not_true, Bool.not_false, cond_true, Bool.false_or]
        by_cases q : eL (dE v (j : Int) sz st).Dims
        · rw [mP (iS i I E q), if_pos ⟨E, q⟩]
          rfl
        · rw [pK (by simp [dE, cP]; omega) q, if_neg (fun z => q z.2)]
          rfl
      rw [e]
      by_cases q : fD v.Dims (j : Int) sz st = 1
      · rw [if_pos (by simp [q]), L 0 (by simp [q])]
        simp only [Option.bind_some]
        rw [m]
        rfl
      · rw [if_neg (by simp [q]), L st (by simp [q])]
        simp only [Option.bind_some]
        rw [m]
        rfl
    · rw [if_pos (by simp; omega), if_neg (fun q => g6 q.1.2.2.2.2)]
      simp [cT, eX]
  · have G : (((!(decide (a ≥ 0) && decide (a < (v.Dims.length : Int)))) || decide (sz < 1)) || decide (st < 1)) = true := by
      simp only [Bool.or_eq_true, Bool.not_eq_true', decide_eq_true_eq, Bool.and_eq_false_iff, decide_eq_false_iff_not]
      omega
    rw [if_pos (fun q => by rw [G] at q; cases q), G, if_pos (by simp), if_neg (fun q => g ⟨⟨q.1.1, q.1.2.1⟩, q.1.2.2.1, q.1.2.2.2.1⟩)]
    simp [cT, eX]
theorem uw {t : Tensor} {v : View} (g : TT t) (a : VG v.Dims v.Strides v.Offset v.Base) (i : v.Base = pr t.Dims) :
    ∃ x, Z0n t v = some ⟨v.Dims, x⟩ ∧ TOk v.Dims x ∧ ∀ is, IV v.Dims is → ix x (fA v.Dims is) = ix t.Data (v.Offset + zs (· * ·) is v.Strides) := by
  have L := dJ a.d.2.1
  have I := a.d.2.2
  have J := a.d.1
  have b : ∀ is, IV v.Dims is → 0 ≤ v.Offset + zs (· * ·) is v.Strides ∧ v.Offset + zs (· * ·) is v.Strides < (t.Data.length : Int) := fun is e => by
    have := a.place e
    rw [g.l, ← i]; exact this
  obtain ⟨y, h1, h2⟩ := oe (YF := fun (s : List Int) (x : Int) => Z20 t.Data s x) a (fun k (y : List Int) => y = (List.range k).map fun k : Nat => ix t.Data (v.Offset + zs (· * ·) (dX v.Dims (k : Int)) v.Strides)) (fun k y F D => by
    subst D
    have := b _ (f7 a.d.2.1 (k : Int))
    simp only [Z20]
    rw [if_pos this, if_pos (by simp; omega)]
    exact ⟨_, rfl, by rw [List.range_succ, List.map_append]; rfl⟩) (y := []) rfl
  refine ⟨y, ?_, ⟨a.d, by rw [h2]; simp; omega, fun x u => ?_⟩, fun is e => ?_⟩
  · unfold Z0n
    rw [qn g, Option.bind_some]
    simp only [cT, Bool.not_true, Bool.not_false, cond_true]
    rw [mP a]
    simp only [Option.bind_some, Bool.not_true, Bool.or_false, Bool.false_or]
    rw [if_neg (by rw [i, g.l]; simp)]
    unfold Z1s
    rw [gu (by omega), Option.bind_some, im (by unfold cP; omega) a.d.2, Option.bind_some, if_pos (by omega)]
    simp only [Z1t, Option.bind_some]
    rw [h1]
    rfl
  · rw [h2] at u
    obtain ⟨k, F, rfl⟩ := List.mem_map.1 u
    have := b _ (f7 a.d.2.1 (k : Int))
    obtain ⟨j, E⟩ := Int.eq_ofNat_of_zero_le this.1
    rw [E]
    exact g.x _ (bJ (by omega))
  · have G := fp a.d.2.1 e
    obtain ⟨q, m⟩ := Int.eq_ofNat_of_zero_le G.1
    have h : q < (pr v.Dims).toNat := by omega
    rw [m, h2, cB (by simpa using h)]
    simp only [List.getElem_map, List.getElem_range]
    rw [← m, lj a.d.2.1 e]
theorem qu {t : Tensor} (b : t.Dims.length < cP) (a : t.Data.length < cP) (h : ¬ TT t) (v : View) : Z0n t v = some ⟨[], []⟩ := by
  unfold Z0n
  rw [kW b a, decide_eq_false (show ¬ TOk t.Dims t.Data from h)]
  rfl
theorem nR {t : Tensor} (h : TT t) : Z0n t eX = some ⟨[], []⟩ := by
  unfold Z0n
  rw [qn h, Option.bind_some]
  simp only [cT, Bool.not_true, Bool.not_false, cond_true, eX]
  rw [ny]
  rfl
theorem qv {v : View} (F : v.Strides.length = v.Dims.length) {j : Nat} {sz st : Int} (q : gU v.Dims (j : Int) sz st) {is : List Int} {w : Int} (e : IV (v.Dims.set j (fD v.Dims (j : Int) sz st)) is) (G : 0 ≤ w ∧ w < sz) :
    (dE v (j : Int) sz st).Offset + zs (· * ·) (is ++ [w]) (dE v (j : Int) sz st).Strides = v.Offset + zs (· * ·) (is.set j (ix is (j : Int) * st + w)) v.Strides ∧ IV v.Dims (is.set j (ix is (j : Int) * st + w)) := by
  obtain ⟨L, M, T⟩ := jE q
  obtain ⟨h1, h2, h3, h4, h5⟩ := q
  have i : j < v.Dims.length := by omega
  have g := e.len
  rw [List.length_set] at g
  have h := e.mem (j := j) (by omega)
  rw [fJ i] at h
  obtain ⟨n, m⟩ : ∃ n, n = fD v.Dims (j : Int) sz st := ⟨_, rfl⟩
  rw [← m] at L M T h e
  have m1 : ix is (j : Int) * st ≤ (n - 1) * st := Int.mul_le_mul_of_nonneg_right (by omega) (by omega)
  have m0 : 0 ≤ ix is (j : Int) * st := Int.mul_nonneg h.1 (by omega)
  refine ⟨?_, pO i e (by omega) (by omega)⟩
  have D : (dE v (j : Int) sz st).Strides = v.Strides.set j (if n = 1 then 0 else ix v.Strides (j : Int) * st) ++ [if sz = 1 then 0 else ix v.Strides (j : Int)] := by rw [m]; simp [dE]
  show v.Offset + _ = _
  rw [D, pH _ (by simp [F]; omega)]
  have u := l9 (· * ·) (xs := is) (ys := v.Strides) (j := j) (a := ix is (j : Int)) (b := if n = 1 then 0 else ix v.Strides (j : Int) * st) (by omega) (by omega)
  have E : is.set j (ix is (j : Int)) = is := by rw [cB (by omega)]; exact List.set_getElem_self _
  rw [E] at u
  have U := l8 (· * ·) (xs := is) (ys := v.Strides) (j := j) (a := ix is (j : Int) * st + w) (by omega) (by omega)
  have I : ix is (j : Int) * (if n = 1 then 0 else ix v.Strides (j : Int) * st) = ix is (j : Int) * st * ix v.Strides (j : Int) := by
    by_cases c : n = 1
    · have : ix is (j : Int) = 0 := by omega
      rw [if_pos c, this]; simp
    · rw [if_neg c, Int.mul_assoc, Int.mul_comm st]
  have J : zs (· * ·) [w] [if sz = 1 then 0 else ix v.Strides (j : Int)] = w * ix v.Strides (j : Int) := by
    by_cases c : sz = 1
    · have : w = 0 := by omega
      rw [if_pos c, this]; simp [zs]
    · rw [if_neg c]; simp [zs]
  rw [u, U, I, J, Int.add_mul]
  omega
def oN (H A pad st : Int) : Int := (H + 2 * pad - (A - 1) - 1) / st + 1
def fT (N C H W O K A B st pad : Int) : Prop := (1 ≤ st ∧ st ≤ 4096) ∧ (0 ≤ pad ∧ pad ≤ 4096) ∧ C = K ∧ 0 ≤ H + 2 * pad - (A - 1) - 1 ∧ 0 ≤ W + 2 * pad - (B - 1) - 1 ∧ eL [N, O, oN H A pad st, oN W B pad st] ∧ pr [N, O, oN H A pad st, oN W B pad st] * K * A * B ≤ 65536
instance (N C H W O K A B st pad : Int) : Decidable (fT N C H W O K A B st pad) := by unfold fT; infer_instance
def gc (N C H W O K A B st pad : Int) : filter := ⟨⟨N, C, H, W, O, K, A, B⟩, st, pad, 1, 1, oN H A pad st, oN W B pad st⟩
theorem qw (x l h : Int) : Z0t x l h = some (decide (l ≤ x ∧ x ≤ h)) := by
  unfold Z0t
  congr 1
  rw [Bool.eq_iff_iff]
  simp
theorem jr {a b c : Int} (h : 0 ≤ a) (e : 0 ≤ b) {M N : Int} (h1 : a ≤ M) (h2 : b ≤ N) (g : 0 ≤ M) : 0 ≤ a * b ∧ a * b ≤ M * N := ⟨Int.mul_nonneg h e, Int.mul_le_mul h1 h2 e g⟩
theorem mY {x w : List Int} (h : ¬ (x.length = 4 ∧ w.length = 4)) (st pad : Int) : ∃ r, Z15 x w st pad 1 1 = some (r, false) := by
  unfold Z15
  have e : (((x.length : Int) != (4 : Int)) || ((w.length : Int) != (4 : Int))) = true := by
    by_cases c : x.length = 4
    · have : w.length ≠ 4 := fun q => h ⟨c, q⟩
      simp; omega
    · simp; omega
  rw [e]
  exact ⟨_, rfl⟩
theorem mf {N C H W O K A B st pad : Int} (hx : eL [N, C, H, W]) (hw : eL [O, K, A, B]) : ∃ r, Z15 [N, C, H, W] [O, K, A, B] st pad 1 1 = some (r, decide (fT N C H W O K A B st pad)) ∧ (fT N C H W O K A B st pad → r = gc N C H W O K A B st pad) := by
  have h := fun d (m : d ∈ [N, C, H, W]) => hx.2.mem m
  have g := fun d (m : d ∈ [O, K, A, B]) => hw.2.mem m
  have h1 := h N (by simp)
  have h2 := h C (by simp)
  have G := h H (by simp)
  have I := h W (by simp)
  have h5 := g O (by simp)
  have h6 := g K (by simp)
  have i := g A (by simp)
  have j := g B (by simp)
  unfold Z15
  simp only [qw]
  have e0 : ((([N, C, H, W] : List Int).length : Int) != 4) = false := by simp
  have e1 : ((([O, K, A, B] : List Int).length : Int) != 4) = false := by simp
  rw [e0, e1]
  have d1 : decide ((1 : Int) ≤ 1 ∧ (1 : Int) ≤ 4096) = true := by decide
  rw [d1]
  simp only [Bool.or_self, Bool.not_false, Bool.not_true, cT, cond_true, Option.bind_some, Bool.false_or, Bool.or_false]
  by_cases g1 : 1 ≤ st ∧ st ≤ 4096
  · rw [decide_eq_true g1]
    simp only [Bool.not_true, Bool.not_false, cond_true, Option.bind_some, Bool.false_or, Bool.or_false]
    by_cases g2 : 0 ≤ pad ∧ pad ≤ 4096
    · rw [decide_eq_true g2]
      simp only [Bool.not_true, Bool.false_eq_true, if_false]
      have x0 : ix [N, C, H, W] 0 = N := rfl
      have x1 : ix [N, C, H, W] 1 = C := rfl
      have x2 : ix [N, C, H, W] 2 = H := rfl
      have x3 : ix [N, C, H, W] 3 = W := rfl
      have w0 : ix [O, K, A, B] 0 = O := rfl
      have w1 : ix [O, K, A, B] 1 = K := rfl
      have w2 : ix [O, K, A, B] 2 = A := rfl
      have w3 : ix [O, K, A, B] 3 = B := rfl
      have E : ∀ H A : Int, 1 ≤ H ∧ H ≤ 4096 → 1 ≤ A ∧ A ≤ 4096 → aG (aG (aG (H + aG (2 * pad)) - aG (1 * aG (A - 1))) - 1) = H + 2 * pad - (A - 1) - 1 := by
        intro H A hH hA
        rw [aX (n := 2 * pad) (by omega) (by omega), aX (n := H + 2 * pad) (by omega) (by omega), aX (n := A - 1) (by omega) (by omega), Int.one_mul, aX (n := A - 1) (by omega) (by omega), aX (n := H + 2 * pad - (A - 1)) (by omega) (by omega), aX (by omega) (by omega)]
      rw [x0, x1, x2, x3, w0, w1, w2, w3, E H A G i, E W B I j]
      simp only [List.length_cons, List.length_nil]
      rw [if_pos (by omega), if_pos (by omega), if_pos (by omega), if_pos (by omega), if_pos (by omega), if_pos (by omega), if_pos (by omega), if_pos (by omega), Int.mul_one, aX (n := K) (by omega) (by omega), if_pos (fun _ => by omega)]
      have et : (O.tmod 1 != 0) = false := by simp
      rw [et, Bool.or_false]
      by_cases g3 : C = K ∧ 0 ≤ H + 2 * pad - (A - 1) - 1 ∧ 0 ≤ W + 2 * pad - (B - 1) - 1
      · obtain ⟨L, M, T⟩ := g3
        have F : ∀ H A : Int, 1 ≤ H ∧ H ≤ 4096 → 1 ≤ A ∧ A ≤ 4096 → 0 ≤ H + 2 * pad - (A - 1) - 1 → aG (aG ((H + 2 * pad - (A - 1) - 1).tdiv st) + 1) = oN H A pad st ∧ 1 ≤ oN H A pad st := by
          intro H A hH hA u
          have q1 := Int.ediv_nonneg u (show 0 ≤ st by omega)
          have q2 : (H + 2 * pad - (A - 1) - 1) / st ≤ H + 2 * pad - (A - 1) - 1 := Int.ediv_le_self _ u
          rw [Int.tdiv_eq_ediv_of_nonneg u, aX (n := (H + 2 * pad - (A - 1) - 1) / st) (by omega) (by omega), aX (by omega) (by omega)]
          exact ⟨rfl, by unfold oN; omega⟩
        obtain ⟨o1, o2⟩ := F H A G i M
        obtain ⟨o3, o4⟩ := F W B I j T
        rw [if_neg (by simp [L]; omega), if_pos (by omega), o1, o3]
        simp only [Z0w, Option.bind_some]
        rw [f' (by simp [cP]), Option.bind_some]
        by_cases g4 : eL [N, O, oN H A pad st, oN W B pad st]
        · rw [decide_eq_true g4]
          simp only [Bool.not_true, Bool.not_false, cond_true, Option.bind_some, Bool.false_or]
          rw [im (by simp [cP]) g4.2, Option.bind_some]
          have J := g4.2.2
          have D := dJ g4.2.1
          obtain ⟨p, e⟩ : ∃ p, p = pr [N, O, oN H A pad st, oN W B pad st] := ⟨_, rfl⟩
          rw [← e] at J D
          rw [← e]
          have U := jr (c := 0) (show 0 ≤ p by omega) (show 0 ≤ K by omega) J h6.2 (by omega)
          have m2 := jr (c := 0) U.1 (show 0 ≤ A by omega) U.2 i.2 (by omega)
          have m3 := jr (c := 0) m2.1 (show 0 ≤ B by omega) m2.2 j.2 (by omega)
          rw [aX (n := p * K) (by omega) (by omega), aX (n := p * K * A) (by omega) (by omega), aX (n := p * K * A * B) (by omega) (by omega)]
          by_cases g5 : p * K * A * B ≤ 65536
          · have ok : fT N C H W O K A B st pad := ⟨g1, g2, L, M, T, g4, by rw [← e]; exact g5⟩
            rw [if_neg (by simp; omega), decide_eq_true ok]
            exact ⟨_, rfl, fun _ => rfl⟩
          · have no : ¬ fT N C H W O K A B st pad := fun q => g5 (by have := q.2.2.2.2.2.2; rwa [← e] at this)
            rw [if_pos (by simp; omega), decide_eq_false no]
            exact ⟨_, rfl, fun q => absurd q no⟩
        · have no : ¬ fT N C H W O K A B st pad := fun q => g4 q.2.2.2.2.2.1
          rw [decide_eq_false g4]
          simp only [Bool.not_true, Bool.not_false, cond_false, Option.bind_some, Bool.true_or]
          rw [if_pos trivial, decide_eq_false no]
          exact ⟨_, rfl, fun q => absurd q no⟩
      · have no : ¬ fT N C H W O K A B st pad := fun q => g3 ⟨q.2.2.1, q.2.2.2.1, q.2.2.2.2.1⟩
        rw [if_pos (by
          by_cases a : C = K
          · by_cases b : 0 ≤ H + 2 * pad - (A - 1) - 1
            · have : ¬ 0 ≤ W + 2 * pad - (B - 1) - 1 := fun c => g3 ⟨a, b, c⟩
              simp [a]; omega
            · simp [a]; omega
          · simp [a]), decide_eq_false no]
        exact ⟨_, rfl, fun q => absurd q no⟩
    · have no : ¬ fT N C H W O K A B st pad := fun q => g2 q.2.1
      rw [decide_eq_false g2, decide_eq_false no]
      exact ⟨_, rfl, fun q => absurd q no⟩
  · have no : ¬ fT N C H W O K A B st pad := fun q => g1 q.1
    rw [decide_eq_false g1, decide_eq_false no]
    exact ⟨_, rfl, fun q => absurd q no⟩
def fs (s : Int) (g : Nat → Int) : Nat → Int
  | 0 => s
  | r + 1 => (fs s g r + g r) % 2147483647
theorem nS (g : Nat → Int) : ∀ n, fs 0 g n = ki g n
  | 0 => rfl
  | n + 1 => by simp only [fs, ki, nS g n]
theorem qx {s : Int} (a : 0 ≤ s ∧ s < 2147483647) (g : Nat → Int) : ∀ n, 0 ≤ fs s g n ∧ fs s g n < 2147483647
  | 0 => a
  | n + 1 => mc _
theorem mZ (s : Int) (g : Nat → Int) (n : Nat) : ∀ m, fs (fs s g n) (fun r => g (n + r)) m = fs s g (n + m)
  | 0 => rfl
  | m + 1 => by simp only [fs, mZ s g n m]; rfl
theorem kk {s : Int} {g g' : Nat → Int} : ∀ {n : Nat}, (∀ r, r < n → g r = g' r) → fs s g n = fs s g' n
  | 0, _ => rfl
  | n + 1, h => by simp only [fs]; rw [kk fun r a => h r (by omega), h n (by omega)]
theorem nT {s : Int} (a : 0 ≤ s ∧ s < 2147483647) : ∀ (n : Nat), fs s (fun _ => 0) n = s
  | 0 => rfl
  | n + 1 => by simp only [fs]; rw [nT a n, Int.add_zero, Int.emod_eq_of_lt a.1 a.2]
section
variable {N C H W O A B st pad : Int} {xd wd : List Int}
def uU (N C H W O A B st pad : Int) (xd wd : List Int) (n o i j k a b : Int) : Int :=
  if (0 ≤ i * st - pad + a ∧ i * st - pad + a < H) ∧ 0 ≤ j * st - pad + b ∧ j * st - pad + b < W then
    ix wd (fA [O, C, A, B] [o, k, a, b]) * ix xd (fA [N, C, H, W] [n, k, i * st - pad + a, j * st - pad + b]) % 2147483647 else 0
def wA (N C H W O A B st pad : Int) (xd wd : List Int) (n o i j : Int) (c : Nat) : Int :=
  uU N C H W O A B st pad xd wd n o i j (ix (dX [C, A, B] (c : Int)) 0) (ix (dX [C, A, B] (c : Int)) 1) (ix (dX [C, A, B] (c : Int)) 2)
theorem xM {K A B : Int} {k a b : Nat} (D : (k : Int) < K) (m : (a : Int) < A) (q : (b : Int) < B) {a' b' : Nat} (i : (a' : Int) = A) (j : (b' : Int) = B) : dX [K, A, B] (((k * (a' * b') + a * b' + b : Nat) : Nat) : Int) = [(k : Int), (a : Int), (b : Int)] := by
  have u : IV [K, A, B] [(k : Int), (a : Int), (b : Int)] := ⟨⟨by omega, D⟩, ⟨by omega, m⟩, ⟨by omega, q⟩, trivial⟩
  have h := lj (ds := [K, A, B]) (fun d g => by
    rcases List.mem_cons.1 g with rfl | g
    · omega
    rcases List.mem_cons.1 g with rfl | g
    · omega
    rcases List.mem_cons.1 g with rfl | g
    · omega
    · cases g) u
  have e : fA [K, A, B] [(k : Int), (a : Int), (b : Int)] = ((k * (a' * b') + a * b' + b : Nat) : Int) := by
    simp only [fA, pr]
    rw [← i, ← j]
    simp
    omega
  rw [e] at h
  exact h
theorem mg (ok : fT N C H W O C A B st pad) (hx : eL [N, C, H, W]) (hw : eL [O, C, A, B]) (lx : (xd.length : Int) = pr [N, C, H, W]) (lw : (wd.length : Int) = pr [O, C, A, B]) (nx : ∀ y ∈ xd, 0 ≤ y ∧ y < 2147483647) (nw : ∀ y ∈ wd, 0 ≤ y ∧ y < 2147483647)
    {n o i j : Nat} (hn : (n : Int) < N) (ho : (o : Int) < O) (hi : (i : Int) < oN H A pad st) (hj : (j : Int) < oN W B pad st) :
    Z6 (gc N C H W O C A B st pad) xd wd (n : Int) (o : Int) (i : Int) (j : Int) = some (ki (wA N C H W O A B st pad xd wd n o i j) (C * A * B).toNat) := by
  obtain ⟨⟨s1, s2⟩, ⟨p1, p2⟩, _, k2, k3, k4, k5⟩ := ok
  have mx := fun d (hd : d ∈ [N, C, H, W]) => hx.2.mem hd
  have mw := fun d (hd : d ∈ [O, C, A, B]) => hw.2.mem hd
  have mo := fun d (hd : d ∈ [N, O, oN H A pad st, oN W B pad st]) => k4.2.mem hd
  have h1 := mx N (by simp)
  have h2 := mx C (by simp)
  have h3 := mx H (by simp)
  have h4 := mx W (by simp)
  have h5 := mw O (by simp)
  have h7 := mw A (by simp)
  have h8 := mw B (by simp)
  have h9 := mo (oN H A pad st) (by simp)
  have aq := mo (oN W B pad st) (by simp)
  obtain ⟨U, hC⟩ := Int.eq_ofNat_of_zero_le (show 0 ≤ C by omega)
  obtain ⟨h, hA⟩ := Int.eq_ofNat_of_zero_le (show 0 ≤ A by omega)
  obtain ⟨g, hB⟩ := Int.eq_ofNat_of_zero_le (show 0 ≤ B by omega)
  have ae : ∀ (q : Nat), q ≤ 4096 → 0 ≤ (q : Int) * st ∧ (q : Int) * st ≤ 4096 * 4096 := fun q hq => jr (c := 0) (by omega) (by omega) (by omega) s2 (by omega)
  have ao := ae i (by omega)
  have ap := ae j (by omega)
  have ak : (o : Int).tdiv O = 0 := by rw [Int.tdiv_eq_ediv_of_nonneg (by omega)]; exact Int.ediv_eq_zero_of_lt (by omega) ho
  obtain ⟨G, hG⟩ : ∃ G, G = wA N C H W O A B st pad xd wd n o i j := ⟨_, rfl⟩
  have ac : ∀ k a b : Nat, k < U → a < h → b < g → G (k * (h * g) + a * g + b) = uU N C H W O A B st pad xd wd n o i j (k : Int) (a : Int) (b : Int) := by
    intro k a b hk I hb
    rw [hG]
    unfold wA
    rw [xM (K := C) (A := A) (B := B) (a' := h) (b' := g) (by omega) (by omega) (by omega) hA.symm hB.symm]
    rfl
  -- rows
  have yv : ∀ a : Nat, a < h → aG (aG (aG ((i : Int) * st) - pad) + aG (1 * (a : Int))) = (i : Int) * st - pad + (a : Int) := by
    intro a I
    rw [aX (n := (i : Int) * st) (by omega) (by omega), aX (n := (i : Int) * st - pad) (by omega) (by omega), Int.one_mul, aX (n := (a : Int)) (by omega) (by omega), aX (by omega) (by omega)]
  have zv : ∀ b : Nat, b < g → aG (aG (aG ((j : Int) * st) - pad) + aG (1 * (b : Int))) = (j : Int) * st - pad + (b : Int) := by
    intro b hb
    rw [aX (n := (j : Int) * st) (by omega) (by omega), aX (n := (j : Int) * st - pad) (by omega) (by omega), Int.one_mul, aX (n := (b : Int)) (by omega) (by omega), aX (by omega) (by omega)]
  have T : ∀ (L D2 D3 D4 D E a3 a4 : Int), eL [L, D2, D3, D4] → IV [L, D2, D3, D4] [D, E, a3, a4] → aG (aG (aG (aG (aG (aG (D * D2) + E) * D3) + a3) * D4) + a4) = fA [L, D2, D3, D4] [D, E, a3, a4] ∧ 0 ≤ fA [L, D2, D3, D4] [D, E, a3, a4] ∧ fA [L, D2, D3, D4] [D, E, a3, a4] < pr [L, D2, D3, D4] := by
    intro L D2 D3 D4 D E a3 a4 hD I
    have aj := fp hD.2.1 I
    have m := fun d (hd : d ∈ [L, D2, D3, D4]) => hD.2.mem hd
    have d1 := m L (by simp)
    have d2 := m D2 (by simp)
    have d3 := m D3 (by simp)
    have d4 := m D4 (by simp)
    obtain ⟨q1, q2, q3, q4, _⟩ := I
    have b1 := jr (c := 0) q1.1 (show 0 ≤ D2 by omega) (show D ≤ 4096 by omega) d2.2 (by omega)
    have b2 := jr (c := 0) (a := D * D2 + E) (by omega) (show 0 ≤ D3 by omega) (show D * D2 + E ≤ 4096 * 4096 + 4096 by omega) d3.2 (by omega)
    have b3 := jr (c := 0) (a := (D * D2 + E) * D3 + a3) (by omega) (show 0 ≤ D4 by omega) (show (D * D2 + E) * D3 + a3 ≤ (4096 * 4096 + 4096) * 4096 + 4096 by omega) d4.2 (by omega)
    refine ⟨?_, aj⟩
    rw [aX (n := D * D2) (by omega) (by omega), aX (n := D * D2 + E) (by omega) (by omega), aX (n := (D * D2 + E) * D3) (by omega) (by omega), aX (n := (D * D2 + E) * D3 + a3) (by omega) (by omega), aX (n := _ * D4) (by omega) (by omega), aX (by omega) (by omega)]
    simp only [fA, pr]
    simp only [Int.add_mul, Int.mul_assoc, Int.mul_one]
    omega
  have M : (gc N C H W O C A B st pad).sizes.a = A := rfl
  have ag : (gc N C H W O C A B st pad).sizes.a = A := rfl
  have ab : (gc N C H W O C A B st pad).sizes.b = B := rfl
  have ah : (gc N C H W O C A B st pad).sizes.c = C := rfl
  have ai : (gc N C H W O C A B st pad).sizes.w_ = W := rfl
  have a6 : (gc N C H W O C A B st pad).sizes.h_ = H := rfl
  have a9 : (gc N C H W O C A B st pad).stride = st := rfl
  have a8 : (gc N C H W O C A B st pad).pad = pad := rfl
  have a0 : (gc N C H W O C A B st pad).dil = 1 := rfl
  have F : (gc N C H W O C A B st pad).sizes.k = C := rfl
  have a5 : (gc N C H W O C A B st pad).groups = 1 := rfl
  have a7 : (gc N C H W O C A B st pad).sizes.o = O := rfl
  -- the innermost loop
  have L3 : ∀ (k a : Nat) (s : Int), k < U → a < h → (0 ≤ s ∧ s < 2147483647) → (0 ≤ (i : Int) * st - pad + (a : Int) ∧ (i : Int) * st - pad + (a : Int) < H) →
      bC (fun z : Int × Int => Z6_L3 (gc N C H W O C A B st pad) xd wd (n : Int) (o : Int) (i : Int) (j : Int) (k : Int) (a : Int) z.1 z.2) (s, 0) = some (fs s (fun b => G (k * (h * g) + a * g + b)) g) := by
    intro k a s hk I hs hy
    refine dN (f := fun z : Int × Int => Z6_L3 (gc N C H W O C A B st pad) xd wd (n : Int) (o : Int) (i : Int) (j : Int) (k : Int) (a : Int) z.1 z.2) (fun b => (fs s (fun b => G (k * (h * g) + a * g + b)) b, (b : Int))) g (fun b hb => ?_) ?_ rfl
    · have u := qx hs (fun b => G (k * (h * g) + a * g + b)) b
      simp only [Z6_L3, Z6_J12]
      rw [ab, ai, a9, a8, a0, F, ag, a7, a5, ah, a6, if_pos (by simp; omega), zv b hb, cR (by unfold cP; omega)]
      simp only [fs]
      rw [ac k a b hk I hb]
      unfold uU
      by_cases c : 0 ≤ (j : Int) * st - pad + (b : Int) ∧ (j : Int) * st - pad + (b : Int) < W
      · obtain ⟨u1, u2, u3⟩ := T O C A B (o : Int) (k : Int) (a : Int) (b : Int) hw ⟨⟨by omega, ho⟩, ⟨by omega, by omega⟩, ⟨by omega, by omega⟩, ⟨by omega, by omega⟩, trivial⟩
        obtain ⟨v1, v2, v3⟩ := T N C H W (n : Int) (k : Int) ((i : Int) * st - pad + (a : Int)) ((j : Int) * st - pad + (b : Int)) hx ⟨⟨by omega, hn⟩, ⟨by omega, by omega⟩, hy, c, trivial⟩
        have ek : aG (aG (aG ((o : Int).tdiv (aG (O.tdiv 1))) * C) + (k : Int)) = (k : Int) := by
          rw [Int.tdiv_one, aX (n := O) (by omega) (by omega), ak, aX (n := 0) (by omega) (by omega), Int.zero_mul, aX (n := 0) (by omega) (by omega), Int.zero_add, aX (by omega) (by omega)]
        rw [if_neg (by simp; omega), ek, yv a I, u1, v1, if_pos (by omega), if_pos (by omega)]
        obtain ⟨ui, al⟩ := Int.eq_ofNat_of_zero_le u2
        obtain ⟨vi, am⟩ := Int.eq_ofNat_of_zero_le v2
        have r1 := nw _ (bJ (xs := wd) (k := ui) (by omega))
        have r2 := nx _ (bJ (xs := xd) (k := vi) (by omega))
        rw [← al] at r1
        rw [← am] at r2
        rw [nN r1 r2, Option.bind_some, lm u (mc _), Option.bind_some, if_pos ⟨hy, c⟩]
      · rw [if_pos (by simp; omega), if_neg (fun q => c q.2), Int.add_zero, Int.emod_eq_of_lt u.1 u.2]
    · simp only [Z6_L3]
      rw [ab, if_neg (by simp; omega)]
  have L2 : ∀ (k : Nat) (s : Int), k < U → (0 ≤ s ∧ s < 2147483647) →
      bC (fun z : Int × Int => Z6_L2 (gc N C H W O C A B st pad) xd wd (n : Int) (o : Int) (i : Int) (j : Int) (k : Int) z.1 z.2) (s, 0) = some (fs s (fun c => G (k * (h * g) + c)) (h * g)) := by
    intro k s hk hs
    refine dN (f := fun z : Int × Int => Z6_L2 (gc N C H W O C A B st pad) xd wd (n : Int) (o : Int) (i : Int) (j : Int) (k : Int) z.1 z.2) (fun a => (fs s (fun c => G (k * (h * g) + c)) (a * g), (a : Int))) h (fun a I => ?_) ?_ (by simp [fs])
    · have u := qx hs (fun c => G (k * (h * g) + c)) (a * g)
      have J := mZ s (fun c => G (k * (h * g) + c)) (a * g) g
      have aa : (a + 1) * g = a * g + g := by rw [Nat.add_mul]; omega
      simp only [Z6_L2, Z6_J13]
      have M : (gc N C H W O C A B st pad).sizes.a = A := rfl
      have a6 : (gc N C H W O C A B st pad).sizes.h_ = H := rfl
      have a9 : (gc N C H W O C A B st pad).stride = st := rfl
      have a8 : (gc N C H W O C A B st pad).pad = pad := rfl
      have a0 : (gc N C H W O C A B st pad).dil = 1 := rfl
      rw [M, a6, a9, a8, a0, if_pos (by simp; omega), yv a I, cR (by unfold cP; omega), aa, ← J]
      by_cases c : 0 ≤ (i : Int) * st - pad + (a : Int) ∧ (i : Int) * st - pad + (a : Int) < H
      · rw [if_neg (by simp; omega), L3 k a _ hk I u c, Option.bind_some]
        congr 3
        exact kk fun r hr => by rw [Nat.add_assoc]
      · rw [if_pos (by simp; omega)]
        congr 3
        have hz : fs (fs s (fun c => G (k * (h * g) + c)) (a * g)) (fun r => G (k * (h * g) + (a * g + r))) g = fs s (fun c => G (k * (h * g) + c)) (a * g) :=
          (kk (g' := fun _ => 0) fun r hr => by
            have e : k * (h * g) + (a * g + r) = k * (h * g) + a * g + r := by omega
            rw [e, ac k a r hk I hr]
            unfold uU
            rw [if_neg (fun q => c q.1)]).trans (nT u g)
        exact hz.symm
    · simp only [Z6_L2]
      have M : (gc N C H W O C A B st pad).sizes.a = A := rfl
      rw [M, if_neg (by simp; omega)]
  unfold Z6
  rw [dN (f := fun z : Int × Int => Z6_L1 (gc N C H W O C A B st pad) xd wd (n : Int) (o : Int) (i : Int) (j : Int) z.1 z.2) (s := (0, 0)) (r := fs 0 G (U * (h * g))) (fun k => (fs 0 G (k * (h * g)), (k : Int))) U (fun k hk => by
    have u := qx (s := 0) (by omega) G (k * (h * g))
    have J := mZ 0 G (k * (h * g)) (h * g)
    have aa : (k + 1) * (h * g) = k * (h * g) + h * g := by rw [Nat.add_mul]; omega
    have F : (gc N C H W O C A B st pad).sizes.k = C := rfl
    have a5 : (gc N C H W O C A B st pad).groups = 1 := rfl
    have a7 : (gc N C H W O C A B st pad).sizes.o = O := rfl
    simp only [Z6_L1, Z6_J14]
    rw [F, a5, a7, if_pos (by simp; omega), if_pos (by omega), if_pos (by rw [Int.tdiv_one, aX (by omega) (by omega)]; omega), L2 k _ hk u, Option.bind_some, cR (by unfold cP; omega), aa, ← J]) (by
    have F : (gc N C H W O C A B st pad).sizes.k = C := rfl
    simp only [Z6_L1]
    rw [F, if_neg (by simp; omega)]) (by simp [fs]), Option.bind_some]
  have e : (C * A * B).toNat = U * (h * g) := by
    have : C * A * B = ((U * (h * g) : Nat) : Int) := by rw [hC, hA, hB]; simp [Int.mul_assoc]
    omega
  rw [e, ← hG, ← nS]
  rfl
end
def eH (f : Nat → List Int) : Nat → List Int
  | 0 => []
  | n + 1 => eH f n ++ f n
theorem eQ {f : Nat → List Int} {m : Nat} (h : ∀ k, (f k).length = m) : ∀ n, (eH f n).length = n * m
  | 0 => by simp [eH]
  | n + 1 => by rw [eH, List.length_append, eQ h n, h, Nat.add_mul]; omega
theorem r' {a b : List Int} {k : Nat} (h : k < a.length) : ix (a ++ b) (k : Int) = ix a (k : Int) := by
  simp [ix, List.getElem?_append_left h]
theorem s0 {a b : List Int} {k : Nat} : ix (a ++ b) ((a.length + k : Nat) : Int) = ix b (k : Int) := by
  unfold ix
  rw [Int.toNat_natCast, Int.toNat_natCast, List.getD_eq_getElem?_getD, List.getD_eq_getElem?_getD, List.getElem?_append_right (by omega), show a.length + k - a.length = k by omega]
theorem iT {f : Nat → List Int} {m : Nat} (h : ∀ k, (f k).length = m) {k r : Nat} (a : r < m) : ∀ n, k < n → ix (eH f n) ((k * m + r : Nat) : Int) = ix (f k) (r : Int)
  | 0, q => absurd q (by omega)
  | n + 1, q => by
    rw [eH]
    by_cases e : k = n
    · subst e
      have := eQ h k
      rw [← this, s0]
    · have h2 : (k + 1) * m ≤ n * m := Nat.mul_le_mul_right m (by omega)
      rw [Nat.add_mul] at h2
      rw [r' (by rw [eQ h]; omega), iT h a n (by omega)]
section
variable {N C H W O A B st pad : Int}
def ux (N C H W O A B st pad : Int) (xd wd : List Int) (is : List Int) : Int :=
  ki (wA N C H W O A B st pad xd wd (ix is 0) (ix is 1) (ix is 2) (ix is 3)) (C * A * B).toNat
theorem qy {x w : Tensor} (T : TT x) (M : TT w) (ex : x.Dims = [N, C, H, W]) (ew : w.Dims = [O, C, A, B]) (L : fT N C H W O C A B st pad) :
    Z3 x w st pad 1 1 = some ⟨[N, O, oN H A pad st, oN W B pad st], rP [N, O, oN H A pad st, oN W B pad st] (ux N C H W O A B st pad x.Data w.Data)⟩ := by
  have hx : eL [N, C, H, W] := ex ▸ T.d
  have hw : eL [O, C, A, B] := ew ▸ M.d
  have lx : (x.Data.length : Int) = pr [N, C, H, W] := ex ▸ T.l
  have lw : (w.Data.length : Int) = pr [O, C, A, B] := ew ▸ M.l
  obtain ⟨r, hr, a4⟩ := mf (N := N) (C := C) (H := H) (W := W) (O := O) (K := C) (A := A) (B := B) (st := st) (pad := pad) hx hw
  have k4 := L.2.2.2.2.2.1
  have D := fun d (hd : d ∈ [N, O, oN H A pad st, oN W B pad st]) => k4.2.mem hd
  have h1 := D N (by simp)
  have h5 := D O (by simp)
  have h9 := D (oN H A pad st) (by simp)
  have a5 := D (oN W B pad st) (by simp)
  have hP : pr [N, O, oN H A pad st, oN W B pad st] ≤ 4096 := k4.2.2
  obtain ⟨g, E⟩ := Int.eq_ofNat_of_zero_le (show 0 ≤ N by omega)
  obtain ⟨on, G⟩ := Int.eq_ofNat_of_zero_le (show 0 ≤ O by omega)
  obtain ⟨b, I⟩ := Int.eq_ofNat_of_zero_le (show 0 ≤ oN H A pad st by omega)
  obtain ⟨a, J⟩ := Int.eq_ofNat_of_zero_le (show 0 ≤ oN W B pad st by omega)
  have a2 : g * (on * (b * a)) ≤ 4096 := by
    have : pr [N, O, oN H A pad st, oN W B pad st] = ((g * (on * (b * a)) : Nat) : Int) := by rw [E, G, I, J]; simp [pr]
    omega
  have a0 : on * (b * a) ≤ 4096 := Nat.le_trans (Nat.le_mul_of_pos_left _ (by omega)) a2
  have a1 : b * a ≤ 4096 := Nat.le_trans (Nat.le_mul_of_pos_left _ (by omega)) a0
  have a6 : a ≤ 4096 := Nat.le_trans (Nat.le_mul_of_pos_left _ (by omega)) a1
  obtain ⟨F, hF⟩ : ∃ F : Nat → Nat → Nat → Nat → Int, F = fun (n o i j : Nat) => ux N C H W O A B st pad x.Data w.Data [(n : Int), (o : Int), (i : Int), (j : Int)] := ⟨_, rfl⟩
  have a3 : ∀ n o i j : Nat, n < g → o < on → i < b → j < a → Z6 (gc N C H W O C A B st pad) x.Data w.Data (n : Int) (o : Int) (i : Int) (j : Int) = some (F n o i j) := by
    intro n o i j h u q hj
    rw [mg L hx hw lx lw T.x M.x (by omega) (by omega) (by omega) (by omega), hF]
    rfl
  have f1 : (gc N C H W O C A B st pad).ow = (a : Int) := J
  have f2 : (gc N C H W O C A B st pad).oh = (b : Int) := I
  have f3 : (gc N C H W O C A B st pad).sizes.o = (on : Int) := G
  have f4 : (gc N C H W O C A B st pad).sizes.n = (g : Int) := E
  have L4 : ∀ (n o i : Nat) (s : List Int), n < g → o < on → i < b → s.length ≤ 100000 → bC (fun z : List Int × Int => Z3_L4 x w (gc N C H W O C A B st pad, true) (n : Int) (o : Int) (i : Int) z.1 z.2) (s, 0) = some (s ++ eH (fun j => [F n o i j]) a) := by
    intro n o i s h u q hs
    refine dN (f := fun z : List Int × Int => Z3_L4 x w (gc N C H W O C A B st pad, true) (n : Int) (o : Int) (i : Int) z.1 z.2) (fun j => (s ++ eH (fun j => [F n o i j]) j, (j : Int))) a (fun j hj => ?_) ?_ (by simp [eH])
    · have hl := eQ (f := fun j => [F n o i j]) (m := 1) (fun _ => rfl) j
      simp only [Z3_L4]
      rw [f1, if_pos (by simp; omega), a3 n o i j h u q hj, Option.bind_some, if_pos (by simp only [List.length_append, List.length_singleton]; omega), cR (by unfold cP; omega), List.append_assoc]
      rfl
    · simp only [Z3_L4]
      rw [f1, if_neg (by simp)]
  have L3 : ∀ (n o : Nat) (s : List Int), n < g → o < on → s.length ≤ 90000 → bC (fun z : List Int × Int => Z3_L3 x w (gc N C H W O C A B st pad, true) (n : Int) (o : Int) z.1 z.2) (s, 0) = some (s ++ eH (fun i => eH (fun j => [F n o i j]) a) b) := by
    intro n o s h u hs
    refine dN (f := fun z : List Int × Int => Z3_L3 x w (gc N C H W O C A B st pad, true) (n : Int) (o : Int) z.1 z.2) (fun i => (s ++ eH (fun i => eH (fun j => [F n o i j]) a) i, (i : Int))) b (fun i q => ?_) ?_ (by simp [eH])
    · have hl := eQ (f := fun i => eH (fun j => [F n o i j]) a) (m := a) (fun i => by rw [eQ (m := 1) (fun _ => rfl)]; omega) i
      have hm : i * a ≤ b * a := Nat.mul_le_mul_right a (by omega)
      simp only [Z3_L3]
      rw [f2, if_pos (by simp; omega), L4 n o i _ h u q (by simp only [List.length_append]; omega), Option.bind_some, Z3_J12, cR (by unfold cP; omega), List.append_assoc]
      rfl
    · simp only [Z3_L3]
      rw [f2, if_neg (by simp)]
  have c3 : ∀ n o, (eH (fun i => eH (fun j => [F n o i j]) a) b).length = b * a := fun n o => eQ (fun i => by rw [eQ (m := 1) (fun _ => rfl)]; omega) b
  have L2 : ∀ (n : Nat) (s : List Int), n < g → s.length ≤ 80000 → bC (fun z : List Int × Int => Z3_L2 x w (gc N C H W O C A B st pad, true) (n : Int) z.1 z.2) (s, 0) = some (s ++ eH (fun o => eH (fun i => eH (fun j => [F n o i j]) a) b) on) := by
    intro n s h hs
    refine dN (f := fun z : List Int × Int => Z3_L2 x w (gc N C H W O C A B st pad, true) (n : Int) z.1 z.2) (fun o => (s ++ eH (fun o => eH (fun i => eH (fun j => [F n o i j]) a) b) o, (o : Int))) on (fun o u => ?_) ?_ (by simp [eH])
    · have hl := eQ (f := fun o => eH (fun i => eH (fun j => [F n o i j]) a) b) (m := b * a) (fun o => c3 n o) o
      have hm : o * (b * a) ≤ on * (b * a) := Nat.mul_le_mul_right _ (by omega)
      simp only [Z3_L2]
      rw [f3, if_pos (by simp; omega), L3 n o _ h u (by simp only [List.length_append]; omega), Option.bind_some, Z3_J13, cR (by unfold cP; omega), List.append_assoc]
      rfl
    · simp only [Z3_L2]
      rw [f3, if_neg (by simp)]
  have U : ∀ n, (eH (fun o => eH (fun i => eH (fun j => [F n o i j]) a) b) on).length = on * (b * a) := fun n => eQ (fun o => c3 n o) on
  have L1 : bC (fun z : List Int × Int => Z3_L1 x w (gc N C H W O C A B st pad, true) z.1 z.2) ([], 0) = some (eH (fun n => eH (fun o => eH (fun i => eH (fun j => [F n o i j]) a) b) on) g) := by
    refine dN (f := fun z : List Int × Int => Z3_L1 x w (gc N C H W O C A B st pad, true) z.1 z.2) (fun n => (eH (fun n => eH (fun o => eH (fun i => eH (fun j => [F n o i j]) a) b) on) n, (n : Int))) g (fun n h => ?_) ?_ rfl
    · have hl := eQ (f := fun n => eH (fun o => eH (fun i => eH (fun j => [F n o i j]) a) b) on) (m := on * (b * a)) U n
      have hm : n * (on * (b * a)) ≤ g * (on * (b * a)) := Nat.mul_le_mul_right _ (by omega)
      simp only [Z3_L1]
      rw [f4, if_pos (by simp; omega), L2 n _ h (by omega), Option.bind_some, Z3_J14, cR (by unfold cP; omega)]
      rfl
    · simp only [Z3_L1]
      rw [f4, if_neg (by simp)]
  have c1 := eQ (f := fun n => eH (fun o => eH (fun i => eH (fun j => [F n o i j]) a) b) on) U g
  unfold Z3
  rw [ln (by simp) (fun t ht => by
    rcases List.mem_cons.1 ht with rfl | ht
    · exact T
    · rcases List.mem_singleton.1 ht with rfl
      exact M), Option.bind_some, if_neg (by simp), ex, ew, hr, Option.bind_some, decide_eq_true L, if_neg (by simp), a4 L]
  rw [L1]
  simp only [Z0w, Option.bind_some, Z3_J15]
  have e : eH (fun n => eH (fun o => eH (fun i => eH (fun j => [F n o i j]) a) b) on) g = rP [N, O, oN H A pad st, oN W B pad st] (ux N C H W O A B st pad x.Data w.Data) := by
    refine qb (fun d hd => (D d hd).1) ?_ ?_
    · rw [c1, E, G, I, J]
      simp [pr]
    · intro is q
      match is, q with
      | [n, o, i, j], ⟨q1, q2, q3, q4, _⟩ =>
        obtain ⟨n, rfl⟩ := Int.eq_ofNat_of_zero_le q1.1
        obtain ⟨o, rfl⟩ := Int.eq_ofNat_of_zero_le q2.1
        obtain ⟨i, rfl⟩ := Int.eq_ofNat_of_zero_le q3.1
        obtain ⟨j, rfl⟩ := Int.eq_ofNat_of_zero_le q4.1
        have b1 : i * a + (j * 1 + 0) < b * a := by
          have : (i + 1) * a ≤ b * a := Nat.mul_le_mul_right _ (by omega)
          rw [Nat.add_mul] at this
          omega
        have b2 : o * (b * a) + (i * a + (j * 1 + 0)) < on * (b * a) := by
          have : (o + 1) * (b * a) ≤ on * (b * a) := Nat.mul_le_mul_right _ (by omega)
          rw [Nat.add_mul] at this
          omega
        have eo : fA [N, O, oN H A pad st, oN W B pad st] [(n : Int), (o : Int), (i : Int), (j : Int)] = ((n * (on * (b * a)) + (o * (b * a) + (i * a + (j * 1 + 0))) : Nat) : Int) := by
          rw [E, G, I, J]
          simp [fA, pr]
        rw [eo, iT U b2 g (by omega), iT (c3 n) b1 on (by omega), iT (m := a) (fun i => by rw [eQ (m := 1) (fun _ => rfl)]; omega) (by omega) b (by omega), iT (m := 1) (fun _ => rfl) (by omega) a (by omega), hF]
        rfl
  rw [e]
  rfl
end
theorem om {ds is : List Int} (I : is.length = ds.length) (F : ds.length < cP) : ∃ b, Z03 ds is = some b ∧ (b = true → IV ds is) := by
  unfold cP at F
  unfold Z03
  rw [if_neg (by simp; omega)]
  by_cases h : ∀ y ∈ (List.range ds.length).map (fun k : Nat => (k : Int)), 0 ≤ ix is y ∧ ix is y < ix ds y
  · have D : ∀ j : Nat, j < ds.length → 0 ≤ ix is (j : Int) ∧ ix is (j : Int) < ix ds (j : Int) := fun j i => h _ (List.mem_map.2 ⟨j, List.mem_range.2 i, rfl⟩)
    rw [dN (f := fun s : Int => Z03_L1 ds is s) (r := .inr ()) (s := 0) (fun j => (j : Int)) ds.length (fun j i => by
      have := D j i
      simp only [Z03_L1]
      rw [if_pos (by simp; omega), if_pos (by omega), if_pos (by omega), if_neg (by simp; omega), cR (by unfold cP; omega)]) (by
      simp only [Z03_L1]
      rw [if_neg (by simp; omega)]) rfl]
    exact ⟨true, rfl, fun _ => sQ I D⟩
  · obtain ⟨m, E, e, a⟩ := og (fun _ => inferInstance) h
    have u : ((List.range ds.length).map (fun k : Nat => (k : Int))).length = ds.length := by simp
    have g : ∀ k : Nat, k < ds.length → ix ((List.range ds.length).map (fun k : Nat => (k : Int))) (k : Int) = (k : Int) := fun k G => by simp [ix, G]
    rw [u] at E
    rw [g m E] at e
    rw [dN (f := fun s : Int => Z03_L1 ds is s) (r := .inl false) (s := 0) (fun j => (j : Int)) m (fun j i => by
      have := a j i
      rw [g j (by omega)] at this
      simp only [Z03_L1]
      rw [if_pos (by simp; omega), if_pos (by omega), if_pos (by omega), if_neg (by simp; omega), cR (by unfold cP; omega)]) (by
      simp only [Z03_L1]
      rw [if_pos (by simp; omega), if_pos (by omega), if_pos (by omega), if_pos (by simp; omega)]) rfl]
    exact ⟨false, rfl, fun q => absurd q (by simp)⟩
theorem wB {t : Tensor} (a : TT t) {is : List Int} (e : is.length = t.Dims.length) : ∃ y, Z1m t is = some y := by
  have := pM a
  obtain ⟨b, h1, h2⟩ := om e (by unfold cP; omega)
  unfold Z1m
  rw [h1]
  cases b with
  | false => exact ⟨0, rfl⟩
  | true =>
    obtain ⟨y, g, _⟩ := pB a (h2 rfl)
    simp only [Option.bind_some, Bool.not_true, Bool.false_eq_true, if_false]
    rw [g]
    exact ⟨y, rfl⟩
section
variable {N C H W O A B st pad : Int}
theorem s6 {x w : Tensor} (tx : TT x) (tw : TT w) (ex : x.Dims = [N, C, H, W]) (h : w.Dims = [O, C, A, B]) {Y Z : Int} (j : eL [N, O, Y, Z]) :
    ∃ d, (bC (fun s : List Int × Int => Ze_L1 x w st pad 1 1 Y Z ⟨[N, O, Y, Z], List.replicate (pr [N, O, Y, Z]).toNat 0⟩ s.1 s.2) (List.replicate (pr [N, O, Y, Z]).toNat 0, 0)) = some d ∧ RG (pr [N, O, Y, Z]).toNat d := by
  have hx : eL [N, C, H, W] := ex ▸ tx.d
  have hw : eL [O, C, A, B] := h ▸ tw.d
  have hP := j.2.pos
  have J : pr [N, O, Y, Z] ≤ 4096 := j.2.2
  obtain ⟨D, G⟩ : ∃ D, D = [N, O, Y, Z] := ⟨_, rfl⟩
  have hO := j.2.mem (d := O) (by simp)
  have I : eL [C, A, B] := ⟨by simp, SZ.tail hw.2⟩
  have a1 := I.2.pos
  have a0 : pr [C, A, B] ≤ 4096 := I.2.2
  have h6 := hw.2.mem (d := C) (by simp)
  have h7 := hw.2.mem (d := A) (by simp)
  have h8 := hw.2.mem (d := B) (by simp)
  have ek : aG (aG (C * A) * B) = pr [C, A, B] := by
    have m1 := jr (c := 0) (show 0 ≤ C by omega) (show 0 ≤ A by omega) h6.2 h7.2 (by omega)
    have m2 := jr (c := 0) m1.1 (show 0 ≤ B by omega) m1.2 h8.2 (by omega)
    rw [aX (n := C * A) (by omega) (by omega), aX (by omega) (by omega)]
    simp [pr, Int.mul_assoc]
  have w0 : ix w.Dims 0 = O := by rw [h]; rfl
  have w1 : ix w.Dims 1 = C := by rw [h]; rfl
  have w2 : ix w.Dims 2 = A := by rw [h]; rfl
  have w3 : ix w.Dims 3 = B := by rw [h]; rfl
  have x0 : ix x.Dims 0 = N := by rw [ex]; rfl
  rw [← G] at hP J j ⊢
  refine nz (f := fun s : List Int × Int => Ze_L1 x w st pad 1 1 Y Z ⟨D, List.replicate (pr D).toNat 0⟩ s.1 s.2) (pr D).toNat (pr D).toNat (fun i hi d hr => ?_) (fun d hr => ?_) (RG.rep _)
  · simp only [Ze_L1, List.length_replicate]
    rw [if_pos (by simp; omega), w0, x0, ← G, jA j (by omega) (by omega), Option.bind_some]
    have hl := fE D (i : Int)
    have E : (dX D (i : Int)).length = 4 := by rw [hl, G]; rfl
    have g := f7 j.2.1 (i : Int)
    rw [E, if_pos (by omega), if_pos (by omega), if_pos (by rw [Int.tdiv_one, aX (by omega) (by omega)]; omega)]
    obtain ⟨d', h1, h2⟩ := nz (f := fun s : List Int × Int => Ze_L2 x w st pad 1 1 ⟨D, List.replicate (pr D).toNat 0⟩ (i : Int) (dX D (i : Int)) s.1 s.2) (Post := fun r => RG (pr D).toNat r) (pr D).toNat (pr [C, A, B]).toNat (fun n hn e L => by
      simp only [Ze_L2, List.length_replicate]
      rw [w0, w1, w2, w3, ek, if_pos (by simp; omega), jA I (by omega) (by omega), Option.bind_some]
      have hq := fE [C, A, B] (n : Int)
      have F := f7 I.2.1 (n : Int)
      obtain ⟨q, U⟩ : ∃ q, q = dX [C, A, B] (n : Int) := ⟨_, rfl⟩
      rw [← U] at hq F ⊢
      obtain ⟨u, hu⟩ : ∃ u, u = dX D (i : Int) := ⟨_, rfl⟩
      rw [← hu] at E g ⊢
      rw [G] at g
      match q, F with
      | [k, a, b], ⟨q1, q2, q3, _⟩ =>
        match u, g with
        | [un, uo, uy, uz], ⟨u1, u2, u3, u4, _⟩ =>
          simp only [List.length_cons, List.length_nil]
          rw [if_pos (by omega), if_pos (by omega), if_pos (by omega), if_pos (by omega), if_pos (by omega), if_pos (by omega)]
          obtain ⟨y, hy⟩ := wB tx (is := [ix [un, uo, uy, uz] 0, aG (aG (aG ((ix [un, uo, uy, uz] 1).tdiv (aG (O.tdiv 1))) * C) + ix [k, a, b] 0), aG (aG (aG (ix [un, uo, uy, uz] 2 * st) - pad) + aG (1 * ix [k, a, b] 1)), aG (aG (aG (ix [un, uo, uy, uz] 3 * st) - pad) + aG (1 * ix [k, a, b] 2))]) (by rw [ex]; rfl)
          rw [hy, Option.bind_some, if_pos (by omega)]
          obtain ⟨z, hz, _⟩ := pB (t := w) (is := [ix [un, uo, uy, uz] 1, ix [k, a, b] 0, ix [k, a, b] 1, ix [k, a, b] 2]) tw (by rw [h]; exact ⟨u2, q1, q2, q3, trivial⟩)
          rw [hz, Option.bind_some]
          obtain ⟨m, hm, _⟩ := iM y z
          obtain ⟨m', M, T⟩ := pL (ix e (i : Int)) m
          rw [hm, Option.bind_some, M, Option.bind_some, cR (by unfold cP; omega)]
          exact ⟨_, rfl, L.set T _⟩) (fun e L => by
      simp only [Ze_L2]
      rw [w1, w2, w3, ek, if_neg (by simp; omega)]
      exact ⟨_, rfl, L⟩) hr
    rw [h1, Option.bind_some, Ze_J2, cR (by unfold cP; omega)]
    exact ⟨_, rfl, h2⟩
  · simp only [Ze_L1, List.length_replicate]
    rw [if_neg (by simp)]
    exact ⟨_, rfl, hr⟩
end
end Go.Proofs.YthfhllekobdelaaGreatDoor
