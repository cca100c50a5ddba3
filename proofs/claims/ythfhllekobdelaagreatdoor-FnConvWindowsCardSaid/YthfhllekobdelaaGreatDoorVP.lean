import Derived.Test.YthfhllekobdelaaGreatDoorCvF
import Derived.Test.YthfhllekobdelaaGreatDoorPL1
set_option linter.unusedVariables false
set_option linter.unusedSimpArgs false
namespace Go.Proofs.YthfhllekobdelaaGreatDoor
open Go Go.Pg
theorem fZ {a b : Int} (e : 0 ≤ a) (g : 1 ≤ b) : a ≤ a * b := by
  have := Int.mul_le_mul_of_nonneg_left g e
  simpa using this
theorem hU {a b : Int} (e : 1 ≤ a) (g : 0 ≤ b) : b ≤ a * b := by rw [Int.mul_comm]; exact fZ g e
def pr : List Int → Int
  | [] => 1
  | d :: ds => d * pr ds
def SZ (ds : List Int) : Prop := (∀ d ∈ ds, 1 ≤ d) ∧ pr ds ≤ 4096
instance (ds : List Int) : Decidable (SZ ds) := by unfold SZ; infer_instance
def eL (ds : List Int) : Prop := ds.length ≤ 6 ∧ SZ ds
instance (ds : List Int) : Decidable (eL ds) := by unfold eL; infer_instance
theorem dJ {ds : List Int} (h : ∀ d ∈ ds, 1 ≤ d) : 1 ≤ pr ds := by
  induction ds with
  | nil => exact Int.le_refl 1
  | cons d ds ih =>
    have h1 := h d (by simp)
    have h2 := ih fun x a => h x (by simp [a])
    exact Int.le_trans h1 (fZ (by omega) h2)
theorem gr (a b : List Int) : pr (a ++ b) = pr a * pr b := by
  induction a with
  | nil => simp [pr]
  | cons x a ih => simp [pr, ih, Int.mul_assoc]
theorem gt (ds : List Int) (k : Nat) : pr ds = pr (ds.take k) * pr (ds.drop k) := by
  rw [← gr, List.take_append_drop]
theorem SZ.take {ds : List Int} (h : SZ ds) (k : Nat) : SZ (ds.take k) := by
  refine ⟨fun d a => h.1 d (List.mem_of_mem_take a), ?_⟩
  have h1 := h.2
  rw [gt ds k] at h1
  have h2 : 1 ≤ pr (ds.drop k) := dJ fun d a => h.1 d (List.mem_of_mem_drop a)
  have b : 1 ≤ pr (ds.take k) := dJ fun d a => h.1 d (List.mem_of_mem_take a)
  exact Int.le_trans (fZ (by omega) h2) h1
theorem SZ.drop {ds : List Int} (h : SZ ds) (k : Nat) : SZ (ds.drop k) := by
  refine ⟨fun d a => h.1 d (List.mem_of_mem_drop a), ?_⟩
  have h1 := h.2
  rw [gt ds k] at h1
  have h2 : 1 ≤ pr (ds.drop k) := dJ fun d a => h.1 d (List.mem_of_mem_drop a)
  have b : 1 ≤ pr (ds.take k) := dJ fun d a => h.1 d (List.mem_of_mem_take a)
  exact Int.le_trans (hU b (by omega)) h1
theorem SZ.tail {d : Int} {ds : List Int} (h : SZ (d :: ds)) : SZ ds := h.drop 1
theorem SZ.pos {ds : List Int} (h : SZ ds) : 1 ≤ pr ds := dJ h.1
theorem SZ.mem {ds : List Int} (h : SZ ds) {d : Int} (e : d ∈ ds) : 1 ≤ d ∧ d ≤ 4096 := by
  refine ⟨h.1 d e, ?_⟩
  obtain ⟨a, b, rfl⟩ := List.append_of_mem e
  have h2 := h.2
  rw [gr] at h2
  have j : 1 ≤ pr a := dJ fun x g => h.1 x (by simp [g])
  have m : 1 ≤ pr b := dJ fun x g => h.1 x (by simp [g])
  have q := h.1 d e
  have i : d ≤ pr (d :: b) := fZ (by omega) m
  exact Int.le_trans (Int.le_trans i (hU j (by omega))) h2
theorem py {R : Type} (h : R) (i : Int → R) (ds : List Int) (k : Nat) (n : Int) (u : 1 ≤ n) (h1 : n ≤ 4096) :
    px (fun (s : Int) (_ : Nat) (x : Int) => if (decide (x < 1) || decide (x > 4096)) = true then .inr h else if decide (s * x > 4096) = true then .inr h else .inl (s * x)) i ds k n
      = if (∀ d ∈ ds, 1 ≤ d) ∧ n * pr ds ≤ 4096 then i (n * pr ds) else h := by
  induction ds generalizing n k with
  | nil => simp [px, pr, h1]
  | cons d ds ih =>
    unfold px
    by_cases c1 : d < 1
    · have m : ¬ ((∀ x ∈ d :: ds, 1 ≤ x) ∧ n * pr (d :: ds) ≤ 4096) := fun ⟨a, _⟩ => by have := a d (by simp); omega
      rw [if_neg m]
      simp [c1]
    · have cP : d > 4096 ∨ n * d > 4096 → ¬ ((∀ x ∈ d :: ds, 1 ≤ x) ∧ n * pr (d :: ds) ≤ 4096) := by
        rintro j ⟨a, b⟩
        have D : 1 ≤ pr ds := dJ fun x q => a x (by simp [q])
        have e : n * pr (d :: ds) = n * d * pr ds := by simp [pr, Int.mul_assoc]
        rw [e] at b
        have h2 : d ≤ n * d := hU u (by omega)
        have E : n * d ≤ n * d * pr ds := fZ (by omega) D
        rcases j with j | j <;> omega
      by_cases c2 : d > 4096
      · rw [if_neg (cP (.inl c2))]; simp [c2]
      · by_cases c3 : n * d > 4096
        · rw [if_neg (cP (.inr c3))]; simp [c1, c2, c3]
        · have F : d ≤ n * d := hU u (by omega)
          simp only [c1, c2, c3, decide_false, Bool.or_self, Bool.false_eq_true, if_false]
          rw [ih (k + 1) (n * d) (by omega) (by omega)]
          have e : n * pr (d :: ds) = n * d * pr ds := by simp [pr, Int.mul_assoc]
          by_cases g : (∀ x ∈ ds, 1 ≤ x) ∧ n * d * pr ds ≤ 4096
          · rw [if_pos g, if_pos ⟨List.forall_mem_cons.2 ⟨by omega, g.1⟩, by rw [e]; exact g.2⟩, e]
          · rw [if_neg g, if_neg fun a => g ⟨fun x q => a.1 x (by simp [q]), by rw [← e]; exact a.2⟩]
theorem rx {R : Type} (a : Int → R) (ds : List Int) (k : Nat) (n : Int) : px (fun (s : Int) (_ : Nat) (x : Int) => .inl (s * x)) a ds k n = a (n * pr ds) := by
  induction ds generalizing n k with
  | nil => simp [px, pr]
  | cons d ds ih =>
    unfold px
    simp only
    rw [ih]
    simp [pr, Int.mul_assoc]
theorem fO {a b : Int} (e : 0 ≤ a) (h1 : a ≤ 65536) (h2 : 0 ≤ b) (g : b ≤ 65536) : aG (a * b) = a * b := by
  have h : a * b ≤ 65536 * 65536 := Int.mul_le_mul h1 g h2 (by omega)
  have i : 0 ≤ a * b := Int.mul_nonneg e h2
  exact aX (by omega) (by omega)
theorem gS {ds : List Int} (u : ds.length < cP) : Zj ds = some (if SZ ds then pr ds else 0) := by
  have := iK (S := Int) ds (fun _ n => 1 ≤ n ∧ n ≤ 4096) (fun s : Int × Int => Zj_L1 ds s.1 s.2) (fun n i => (n, i)) (fun (s : Int) (_ : Nat) (x : Int) => if (decide (x < 1) || decide (x > 4096)) = true then .inr (.inl (0 : Int)) else if decide (s * x > 4096) = true then .inr (.inl 0) else .inl (s * x)) (fun n => .inr n)
    (fun n k m q => by
      simp only [Zj_L1]
      rw [if_pos (by simp; omega), if_pos (by omega)]
      split
      · rfl
      · rename_i h
        simp only [Bool.or_eq_true, decide_eq_true_eq, not_or] at h
        rw [fO (by omega) (by omega) (by omega) (by omega), cR (by omega)]
        split <;> rfl)
    (fun n k s m q j => by
      split at j
      · cases j
      · rename_i h
        simp only [Bool.or_eq_true, decide_eq_true_eq, not_or] at h
        split at j
        · cases j
        · rename_i h2
          simp only [decide_eq_true_eq] at h2
          cases j
          have := hU (a := n) (b := ix ds (k : Int)) m.1 (by omega)
          omega)
    (fun n _ => by simp only [Zj_L1]; rw [if_neg (by simp)]) 1 ⟨by omega, by omega⟩
  unfold Zj
  rw [this, py _ _ _ _ _ (by omega) (by omega)]
  simp only [Int.one_mul, Option.bind_some]
  have e : SZ ds ↔ (∀ d ∈ ds, 1 ≤ d) ∧ pr ds ≤ 4096 := Iff.rfl
  by_cases h : SZ ds
  · rw [if_pos (e.1 h), if_pos h]; rfl
  · rw [if_neg (fun g => h (e.2 g)), if_neg h]
theorem gT {ds : List Int} (a : ds.length < cP) : Z0c ds = some (decide (eL ds)) := by
  unfold Z0c
  by_cases h : ds.length ≤ 6
  · have e : decide ((ds.length : Int) ≤ 6) = true := by simp; omega
    rw [e]
    simp only [cT, gS a, cond_true, Option.bind_some, Bool.true_and]
    congr 1
    by_cases g : SZ ds
    · have := g.pos; simp [g, eL, h]; omega
    · simp [g, eL]
  · have e : decide ((ds.length : Int) ≤ 6) = false := by simp; omega
    rw [e]
    simp [cT, eL, h]
theorem f' {ds : List Int} (u : ds.length < cP) : Zg ds = some (decide (eL ds)) := by
  have := iK (S := Int) ds (fun _ n => 1 ≤ n ∧ n ≤ 4096) (fun s : Int × Int => Zg_L1 ds s.1 s.2) (fun n i => (n, i)) (fun (s : Int) (_ : Nat) (x : Int) => if (decide (x < 1) || decide (x > 4096)) = true then .inr (.inl false) else if decide (s * x > 4096) = true then .inr (.inl false) else .inl (s * x)) (fun n => .inr ())
    (fun n k m q => by
      simp only [Zg_L1]
      rw [if_pos (by simp; omega), if_pos (by omega)]
      split
      · rfl
      · rename_i h
        simp only [Bool.or_eq_true, decide_eq_true_eq, not_or] at h
        rw [fO (by omega) (by omega) (by omega) (by omega), cR (by omega)]
        split <;> rfl)
    (fun n k s m q j => by
      split at j
      · cases j
      · rename_i h
        simp only [Bool.or_eq_true, decide_eq_true_eq, not_or] at h
        split at j
        · cases j
        · rename_i h2
          simp only [decide_eq_true_eq] at h2
          cases j
          have := hU (a := n) (b := ix ds (k : Int)) m.1 (by omega)
          omega)
    (fun n _ => by simp only [Zg_L1]; rw [if_neg (by simp)]) 1 ⟨by omega, by omega⟩
  unfold Zg
  rw [this, py _ _ _ _ _ (by omega) (by omega)]
  simp only [Int.one_mul, Option.bind_some]
  have e : SZ ds ↔ (∀ d ∈ ds, 1 ≤ d) ∧ pr ds ≤ 4096 := Iff.rfl
  by_cases h : SZ ds
  · rw [if_pos (e.1 h)]
    simp only [Zg_J1]
    congr 1
    simp [eL, h]; omega
  · rw [if_neg (fun g => h (e.2 g))]
    simp [eL, h]
theorem im {ds : List Int} (j : ds.length < cP) (h : SZ ds) : Zd ds = some (pr ds) := by
  have := iK (S := Int) ds (fun k n => n = pr (ds.take k)) (fun s : Int × Int => Zd_L1 ds s.1 s.2) (fun n i => (n, i)) (fun (s : Int) (_ : Nat) (x : Int) => .inl (s * x)) (fun n => n)
    (fun n k b a => by
      simp only [Zd_L1]
      have h1 := (h.take k)
      have h2 := h1.pos
      have g := h.mem (bJ a)
      rw [if_pos (by simp; omega), if_pos (by omega), fO (by omega) (by have := h1.2; omega) (by omega) (by omega), cR (by omega)])
    (fun n k s b a e => by
      simp only [Sum.inl.injEq] at e
      rw [← e, b, List.take_succ_eq_append_getElem a, gr, cB a]
      simp [pr])
    (fun n _ => by simp only [Zd_L1]; rw [if_neg (by simp)]) 1 rfl
  unfold Zd
  rw [this, rx]
  simp [Zd_J1]
def dX : List Int → Int → List Int
  | [], _ => []
  | d :: ds, k => (k / pr ds) % d :: dX ds k
def fA : List Int → List Int → Int
  | d :: ds, i :: is => i * pr ds + fA ds is
  | _, _ => 0
def IV : List Int → List Int → Prop
  | [], [] => True
  | d :: ds, i :: is => (0 ≤ i ∧ i < d) ∧ IV ds is
  | _, _ => False
theorem fE (ds : List Int) (k : Int) : (dX ds k).length = ds.length := by
  induction ds with
  | nil => rfl
  | cons d ds ih => simp [dX, ih]
theorem IV.len {ds is : List Int} (h : IV ds is) : is.length = ds.length := by
  induction ds generalizing is with
  | nil => cases is with
    | nil => rfl
    | cons => exact h.elim
  | cons d ds ih => cases is with
    | nil => exact h.elim
    | cons i is => simp [ih h.2]
theorem f7 {ds : List Int} (h : ∀ d ∈ ds, 1 ≤ d) (k : Int) : IV ds (dX ds k) := by
  induction ds with
  | nil => trivial
  | cons d ds ih =>
    have b := h d (by simp)
    exact ⟨⟨Int.emod_nonneg _ (by omega), Int.emod_lt_of_pos _ (by omega)⟩, ih fun x a => h x (by simp [a])⟩
theorem fp {ds is : List Int} (h : ∀ d ∈ ds, 1 ≤ d) (e : IV ds is) : 0 ≤ fA ds is ∧ fA ds is < pr ds := by
  induction ds generalizing is with
  | nil => cases is with
    | nil => exact ⟨Int.le_refl 0, by decide⟩
    | cons => exact e.elim
  | cons d ds ih => cases is with
    | nil => exact e.elim
    | cons i is =>
      obtain ⟨a, b⟩ := ih (fun x g => h x (by simp [g])) e.2
      have m : 1 ≤ pr ds := dJ fun x g => h x (by simp [g])
      have j := Int.mul_nonneg e.1.1 (show 0 ≤ pr ds by omega)
      have h1 : (i + 1) * pr ds ≤ d * pr ds := Int.mul_le_mul_of_nonneg_right (by have := e.1.2; omega) (by omega)
      rw [Int.add_mul] at h1
      show 0 ≤ i * pr ds + fA ds is ∧ i * pr ds + fA ds is < d * pr ds
      omega
theorem pz {k p d : Int} (D : 1 ≤ p) (u : 1 ≤ d) : k / (d * p) = k / p / d ∧ k % (d * p) = k / p % d * p + k % p := by
  have a := Int.emod_nonneg k (show p ≠ 0 by omega)
  have b := Int.emod_lt_of_pos k (show 0 < p by omega)
  have c := Int.emod_nonneg (k / p) (show d ≠ 0 by omega)
  have e := Int.emod_lt_of_pos (k / p) (show 0 < d by omega)
  have h1 := Int.mul_nonneg c (show 0 ≤ p by omega)
  have h2 : (k / p % d + 1) * p ≤ d * p := Int.mul_le_mul_of_nonneg_right (by omega) (by omega)
  rw [Int.add_mul] at h2
  have i : 0 < d * p := Int.mul_pos (by omega) (by omega)
  refine (Int.ediv_emod_unique (q := k / p / d) i).2 ⟨?_, by omega, by omega⟩
  have j := Int.mul_ediv_add_emod k p
  have g := Int.mul_ediv_add_emod (k / p) d
  have h : d * p * (k / p / d) = p * (d * (k / p / d)) := by rw [Int.mul_comm d p, Int.mul_assoc]
  have m : p * (k / p) = p * (d * (k / p / d)) + p * (k / p % d) := by rw [← Int.mul_add, g]
  rw [h, Int.mul_comm (k / p % d) p]
  omega
theorem ry {ds : List Int} (h : ∀ d ∈ ds, 1 ≤ d) (k : Int) : fA ds (dX ds k) = k % pr ds := by
  induction ds generalizing k with
  | nil => simp [fA, pr, Int.emod_one]
  | cons d ds ih =>
    have e : 1 ≤ pr ds := dJ fun x a => h x (by simp [a])
    have b := h d (by simp)
    show k / pr ds % d * pr ds + fA ds (dX ds k) = k % (d * pr ds)
    rw [ih fun x a => h x (by simp [a])]
    exact (pz e b).2.symm
theorem kz {ds : List Int} (h : ∀ d ∈ ds, 1 ≤ d) {k : Int} (a : 0 ≤ k) (h1 : k < pr ds) : fA ds (dX ds k) = k := by
  rw [ry h, Int.emod_eq_of_lt a h1]
theorem dN {S R : Type} {f : S → Option (S ⊕ R)} (st : Nat → S) (n : Nat) {r : R} (h : ∀ j, j < n → f (st j) = some (.inl (st (j + 1)))) (e : f (st n) = some (.inr r)) {s : S} (b : s = st 0) : bC f s = some r := by
  have a : ∀ m j, j + m = n → bC f (st j) = some r := by
    intro m
    induction m with
    | zero => intro j g; rw [show j = n by omega]; exact eD e
    | succ m ih => intro j g; rw [eV (h j (by omega))]; exact ih (j + 1) (by omega)
  rw [b]
  exact a n 0 (by omega)
theorem ka {S R : Type} {f : S → Option (S ⊕ R)} (I : Nat → S → Prop) (n : Nat) {Post : R → Prop} (i : ∀ j s, j < n → I j s → ∃ s', f s = some (.inl s') ∧ I (j + 1) s') (g : ∀ s, I n s → ∃ r, f s = some (.inr r) ∧ Post r) {s : S} (e : I 0 s) : ∃ r, bC f s = some r ∧ Post r := by
  have b : ∀ m j s, j + m = n → I j s → ∃ r, bC f s = some r ∧ Post r := by
    intro m
    induction m with
    | zero =>
      intro j s h a
      rw [show j = n by omega] at a
      obtain ⟨r, h1, h2⟩ := g s a
      exact ⟨r, eD h1, h2⟩
    | succ m ih =>
      intro j s h a
      obtain ⟨s', h1, h2⟩ := i j s (by omega) a
      rw [eV h1]
      exact ih (j + 1) s' (by omega) h2
  exact b n 0 s (by omega) e
structure TOk (dims data : List Int) : Prop where
  d : eL dims
  l : (data.length : Int) = pr dims
  x : ∀ x ∈ data, 0 ≤ x ∧ x < 2147483647
instance (dims data : List Int) : Decidable (TOk dims data) := decidable_of_iff (eL dims ∧ (data.length : Int) = pr dims ∧ ∀ x ∈ data, 0 ≤ x ∧ x < 2147483647) ⟨fun h => ⟨h.1, h.2.1, h.2.2⟩, fun h => ⟨h.d, h.l, h.x⟩⟩
theorem lZ (xs : List Int) : (xs.all fun x => !(decide (x < 0) || decide (x ≥ 2147483647))) = decide (∀ x ∈ xs, 0 ≤ x ∧ x < 2147483647) := by
  rw [Bool.eq_iff_iff]
  simp only [List.all_eq_true, decide_eq_true_eq, Bool.not_eq_true', Bool.or_eq_false_iff, decide_eq_false_iff_not]
  exact ⟨fun h x a => by have := h x a; omega, fun h x a => by have := h x a; omega⟩
theorem kV {t : Tensor} (a : t.Dims.length < cP) (b : t.Data.length < cP) : Zm t = some (decide (TOk t.Dims t.Data)) := by
  unfold Zm
  rw [gT a]
  by_cases h : eL t.Dims
  · simp only [h, decide_true, Option.bind_some, cT, Bool.not_true, Bool.not_false, cond_true, Bool.false_or, gS a, h.2, if_true]
    by_cases e : (t.Data.length : Int) = pr t.Dims
    · rw [if_neg (by simp [e])]
      have := eP t.Data (fun s : Int => Zm_L1 t s) (fun i => i) (fun x => !(decide (x < 0) || decide (x ≥ 2147483647))) (.inl false) (.inr ())
        (fun k j => by
          simp only [Zm_L1]
          rw [if_pos (by simp; omega), if_pos (by omega), cR (by omega)]
          cases (decide (ix t.Data (k : Int) < 0) || decide (ix t.Data (k : Int) ≥ 2147483647)) <;> rfl)
        (by simp only [Zm_L1]; rw [if_neg (by simp)])
      rw [this, lZ]
      by_cases g : ∀ x ∈ t.Data, 0 ≤ x ∧ x < 2147483647
      · have : TOk t.Dims t.Data := ⟨h, e, g⟩
        simp only [decide_eq_true g, decide_eq_true this, if_true, Option.bind_some, Zm_J1]
      · have : ¬ TOk t.Dims t.Data := fun q => g q.x
        simp only [decide_eq_false g, decide_eq_false this, Bool.false_eq_true, if_false, Option.bind_some]
    · rw [if_pos (by simp [e])]
      have : ¬ TOk t.Dims t.Data := fun q => e q.l
      simp [this]
  · have : ¬ TOk t.Dims t.Data := fun q => h q.d
    simp [h, this, cT]
theorem kW {t : Tensor} (a : t.Dims.length < cP) (j : t.Data.length < cP) : Z0r t = some (decide (TOk t.Dims t.Data)) := by
  unfold Z0r
  rw [f' a]
  by_cases h : eL t.Dims
  · simp only [h, decide_true, Option.bind_some, cT, cond_true, Bool.true_and, im a h.2]
    by_cases e : (t.Data.length : Int) = pr t.Dims
    · have := eP t.Data (fun s : Int => Z0a_L1 t.Data s) (fun i => i) (fun x => !(decide (x < 0) || decide (x ≥ 2147483647))) (.inl false) (.inr ())
        (fun k m => by
          simp only [Z0a_L1, Z1q, Option.bind_some]
          rw [if_pos (by simp; omega), if_pos (by omega), cR (by omega)]
          by_cases c1 : ix t.Data (k : Int) < 0
          · have : ¬ ix t.Data (k : Int) ≥ 0 := by omega
            simp [c1, this]
          · have h1 : ix t.Data (k : Int) ≥ 0 := by omega
            by_cases c2 : ix t.Data (k : Int) < 2147483647
            · have h2 : ¬ ix t.Data (k : Int) ≥ 2147483647 := by omega
              simp [c1, h1, c2, h2]
            · have h2 : ix t.Data (k : Int) ≥ 2147483647 := by omega
              simp [c1, h1, c2, h2])
        (by simp only [Z0a_L1]; rw [if_neg (by simp)])
      simp only [e, beq_self_eq_true, cond_true, Z0a, this, lZ]
      by_cases g : ∀ x ∈ t.Data, 0 ≤ x ∧ x < 2147483647
      · have : TOk t.Dims t.Data := ⟨h, e, g⟩
        simp only [decide_eq_true g, decide_eq_true this, if_true, Option.bind_some, Z0a_J1, Bool.and_self]
      · have : ¬ TOk t.Dims t.Data := fun q => g q.x
        simp only [decide_eq_false g, decide_eq_false this, Bool.false_eq_true, if_false, Option.bind_some, Bool.and_false]
    · have : ¬ TOk t.Dims t.Data := fun q => e q.l
      have b : ((t.Data.length : Int) == pr t.Dims) = false := by simp [e]
      simp [this, b]
  · have : ¬ TOk t.Dims t.Data := fun q => h q.d
    simp [h, this, cT]
theorem io {xs : List Int} (h : xs.length ≤ 17592186044416) : Z0k xs = some xs := by
  unfold Z0k
  rw [if_pos (by simpa using h)]
  simp
theorem gu {xs : List Int} (h : xs.length ≤ 17592186044416) : Zy xs = some xs := by
  unfold Zy; rw [if_pos h]
theorem pA {ds : List Int} (h : eL ds) : Z0m ds = some ⟨ds, List.replicate (pr ds).toNat 0⟩ := by
  have h1 := h.1
  have h2 := h.2.pos
  have a := h.2.2
  unfold Z0m
  rw [io (by omega)]
  simp only [Option.bind_some, gS (ds := ds) (by unfold cP; omega), h.2, if_true]
  rw [if_pos (by omega)]
theorem jA {ds : List Int} {k : Int} (h : eL ds) (b : 0 ≤ k) (h1 : k ≤ 65536) : Zh ds k = some (dX ds k) := by
  have T := h.1
  unfold Zh
  rw [if_pos (by omega)]
  have := dN (f := fun s : Int × List Int × Int => Zh_L1 ds s.1 s.2.1 s.2.2) (r := dX ds k)
    (fun j => (k / pr (ds.drop (ds.length - j)), List.replicate (ds.length - j) 0 ++ dX (ds.drop (ds.length - j)) k, (ds.length : Int) - 1 - j)) ds.length
    (fun j M => by
      obtain ⟨i, E⟩ : ∃ i, i = ds.length - (j + 1) := ⟨_, rfl⟩
      have m : ds.length - j = i + 1 := by omega
      have q : (ds.length : Int) - 1 - (j : Int) = (i : Int) := by omega
      have a : i < ds.length := by omega
      have F := h.2.mem (bJ a)
      have G := (h.2.drop (i + 1)).pos
      have e : ds.drop i = ix ds (i : Int) :: ds.drop (i + 1) := by rw [List.drop_eq_getElem_cons a, cB a]
      have g : 0 ≤ k / pr (ds.drop (i + 1)) := Int.ediv_nonneg b (by omega)
      have I : k / pr (ds.drop (i + 1)) ≤ 65536 := Int.le_trans (Int.ediv_le_self _ b) h1
      simp only [Zh_L1, m, q, ← E]
      rw [if_pos (by simp), if_pos (by omega), if_pos (by omega), if_pos (by simp; omega)]
      have u : (k / pr (ds.drop (i + 1))).tdiv (ix ds (i : Int)) = k / pr (ds.drop i) := by
        rw [Int.tdiv_eq_ediv_of_nonneg g, e]; exact (pz G F.1).1.symm
      have D : (k / pr (ds.drop (i + 1))).tmod (ix ds (i : Int)) = k / pr (ds.drop (i + 1)) % ix ds (i : Int) := Int.tmod_eq_emod_of_nonneg g
      have J : 0 ≤ k / pr (ds.drop i) := Int.ediv_nonneg b (by have := (h.2.drop i).pos; omega)
      have L : k / pr (ds.drop i) ≤ 65536 := Int.le_trans (Int.ediv_le_self _ b) h1
      rw [u, D, aX (by omega) (by omega), aX (by omega) (by omega)]
      congr 4
      · rw [e, List.set_append_left _ _ (by simp), List.replicate_succ', List.set_append_right _ _ (by simp)]
        simp [dX]
      · omega)
    (by
      simp only [Zh_L1, Nat.sub_self, List.drop_zero, List.replicate_zero, List.nil_append]
      rw [if_neg (by simp; omega)])
    (s := (k, List.replicate (ds.length : Int).toNat 0, aG ((ds.length : Int) - 1))) (by
      rw [aX (by omega) (by omega)]
      simp [pr, dX])
  rw [this]
  rfl
theorem l' {ds is : List Int} (g : IV ds is) {k : Nat} (h : k < ds.length) : IV (ds.take k) (is.take k) ∧ fA (ds.take (k + 1)) (is.take (k + 1)) = fA (ds.take k) (is.take k) * ix ds (k : Int) + ix is (k : Int) := by
  induction ds generalizing is k with
  | nil => simp at h
  | cons d ds ih => cases is with
    | nil => exact g.elim
    | cons i is =>
      cases k with
      | zero => simp [IV, fA, pr, ix]
      | succ k =>
        obtain ⟨a, b⟩ := ih g.2 (k := k) (by simpa using h)
        refine ⟨⟨g.1, a⟩, ?_⟩
        have e : k < ds.length := by simpa using h
        have j : ix (d :: ds) ((k + 1 : Nat) : Int) = ix ds (k : Int) := by simp [ix]
        have m : ix (i :: is) ((k + 1 : Nat) : Int) = ix is (k : Int) := by simp [ix]
        rw [j, m]
        have q : pr (ds.take (k + 1)) = pr (ds.take k) * ix ds (k : Int) := by rw [List.take_succ_eq_append_getElem e, gr, cB e]; simp [pr]
        show i * pr (ds.take (k + 1)) + fA (ds.take (k + 1)) (is.take (k + 1)) = (i * pr (ds.take k) + fA (ds.take k) (is.take k)) * ix ds (k : Int) + ix is (k : Int)
        rw [b, q, Int.add_mul, Int.mul_assoc, Int.add_assoc]
theorem kX {ds is : List Int} (h : eL ds) (g : IV ds is) : Z00 ds is = some (fA ds is) := by
  have F := h.1
  have u := g.len
  unfold Z00
  have := dN (f := fun s : Int × Int => Z00_L1 ds is s.1 s.2) (r := fA ds is) (fun j => (fA (ds.take j) (is.take j), (j : Int))) ds.length
    (fun j m => by
      obtain ⟨a, b⟩ := l' g m
      have E := fp (fun d i => h.2.1 d (List.mem_of_mem_take i)) a
      have I := (h.2.take j).2
      have q := fp (fun d i => h.2.1 d (List.mem_of_mem_take i)) (ds := ds.take (j + 1)) (is := is.take (j + 1)) (by
        by_cases e : j + 1 < ds.length
        · exact (l' g e).1
        · rw [List.take_of_length_le (by omega), List.take_of_length_le (by omega)]; exact g)
      have D := (h.2.take (j + 1)).2
      have G := h.2.mem (bJ m)
      simp only [Z00_L1]
      rw [if_pos (by simp; omega), if_pos (by omega), if_pos (by omega), fO (by omega) (by omega) (by omega) (by omega), ← b, aX (by omega) (by omega), cR (by unfold cP; omega)])
    (by simp only [Z00_L1]; rw [if_neg (by simp), List.take_length, List.take_of_length_le (by omega)])
    (s := (0, 0)) (by simp [fA])
  rw [this]
  rfl
theorem pB {t : Tensor} {is : List Int} (h : TOk t.Dims t.Data) (a : IV t.Dims is) : ∃ x, Z11 t is = some x ∧ x ∈ t.Data := by
  have b := fp h.d.2.1 a
  have g := h.l
  unfold Z11
  rw [kX h.d a]
  simp only [Option.bind_some]
  rw [if_pos (by omega)]
  refine ⟨_, rfl, ?_⟩
  have e : (((fA t.Dims is).toNat : Nat) : Int) = fA t.Dims is := by omega
  rw [← e]
  exact bJ (by omega)
theorem wr {t : Tensor} {is : List Int} {x : Int} (h : eL t.Dims) (e : (t.Data.length : Int) = pr t.Dims) (a : IV t.Dims is) : Z1l t is x = some (t.Data.set (fA t.Dims is).toNat x) := by
  have b := fp h.2.1 a
  unfold Z1l
  rw [kX h a]
  simp only [Option.bind_some]
  rw [if_pos (by omega)]
def zs (f : Int → Int → Int) : List Int → List Int → Int
  | a :: xs, b :: ys => f a b + zs f xs ys
  | _, _ => 0
theorem hW (f : Int → Int → Int) {xs ys : List Int} {j : Nat} (e : j < xs.length) (g : j < ys.length) : zs f (xs.take (j + 1)) (ys.take (j + 1)) = zs f (xs.take j) (ys.take j) + f (ix xs (j : Int)) (ix ys (j : Int)) := by
  induction xs generalizing ys j with
  | nil => simp at e
  | cons a xs ih => cases ys with
    | nil => simp at g
    | cons b ys =>
      cases j with
      | zero => simp [zs, ix]
      | succ j =>
        have h : ix (a :: xs) ((j + 1 : Nat) : Int) = ix xs (j : Int) := by simp [ix]
        have i : ix (b :: ys) ((j + 1 : Nat) : Int) = ix ys (j : Int) := by simp [ix]
        have := ih (ys := ys) (j := j) (by simpa using e) (by simpa using g)
        rw [h, i]
        simp only [List.take_succ_cons, zs] at this ⊢
        omega
theorem sF (f : Int → Int → Int) {xs ys : List Int} {M : Int} (g : xs.length = ys.length) (a : ∀ j : Nat, j < xs.length → -M ≤ f (ix xs (j : Int)) (ix ys (j : Int)) ∧ f (ix xs (j : Int)) (ix ys (j : Int)) ≤ M) {j : Nat} (b : j ≤ xs.length) :
    -(j * M) ≤ zs f (xs.take j) (ys.take j) ∧ zs f (xs.take j) (ys.take j) ≤ j * M := by
  induction j with
  | zero => simp [zs]
  | succ j ih =>
    have h1 := ih (by omega)
    have h2 := a j (by omega)
    rw [hW f (by omega) (by omega)]
    have e : ((j + 1 : Nat) : Int) * M = (j : Int) * M + M := by rw [show ((j + 1 : Nat) : Int) = (j : Int) + 1 by omega, Int.add_mul]; omega
    rw [e]
    omega
def lw (d s : Int) : Int := if s * (d - 1) < 0 then s * (d - 1) else 0
def hw (d s : Int) : Int := if s * (d - 1) > 0 then s * (d - 1) else 0
theorem u0 {ds is ss : List Int} (e : IV ds is) (h : ss.length = ds.length) : zs lw ds ss ≤ zs (· * ·) is ss ∧ zs (· * ·) is ss ≤ zs hw ds ss := by
  induction ds generalizing is ss with
  | nil => cases is with
    | nil => simp [zs]
    | cons => exact e.elim
  | cons d ds ih => cases is with
    | nil => exact e.elim
    | cons i is => cases ss with
      | nil => simp at h
      | cons s ss =>
        obtain ⟨a, b⟩ := ih e.2 (ss := ss) (by simpa using h)
        have h1 : 0 ≤ i ∧ i ≤ d - 1 := ⟨e.1.1, by have := e.1.2; omega⟩
        have j : lw d s ≤ i * s ∧ i * s ≤ hw d s := by
          unfold lw hw
          rw [Int.mul_comm i s]
          rcases Int.le_total 0 s with g | g
          · have m : 0 ≤ s * i := Int.mul_nonneg g h1.1
            have q : s * i ≤ s * (d - 1) := Int.mul_le_mul_of_nonneg_left h1.2 g
            split <;> split <;> omega
          · have m : s * i ≤ 0 := Int.mul_nonpos_of_nonpos_of_nonneg g h1.1
            have q : s * (d - 1) ≤ s * i := Int.mul_le_mul_of_nonpos_left g h1.2
            split <;> split <;> omega
        simp only [zs]
        omega
structure VG (dims ss : List Int) (off base : Int) : Prop where
  d : eL dims
  l : ss.length = dims.length
  b : 1 ≤ base ∧ base ≤ 4096
  o : 0 ≤ off ∧ off < base
  s : ∀ s ∈ ss, -4096 ≤ s ∧ s ≤ 4096
  lo : 0 ≤ off + zs lw dims ss
  hi : off + zs hw dims ss < base
theorem VG.place {a ss : List Int} {b base : Int} (h : VG a ss b base) {is : List Int} (e : IV a is) : 0 ≤ b + zs (· * ·) is ss ∧ b + zs (· * ·) is ss < base := by
  have h1 := u0 e h.l
  have h2 := h.lo
  have g := h.hi
  omega
theorem IV.mem {ds is : List Int} (h : IV ds is) {j : Nat} (a : j < is.length) : 0 ≤ ix is (j : Int) ∧ ix is (j : Int) < ix ds (j : Int) := by
  induction ds generalizing is j with
  | nil => cases is with
    | nil => simp at a
    | cons => exact h.elim
  | cons d ds ih => cases is with
    | nil => exact h.elim
    | cons i is => cases j with
      | zero => exact h.1
      | succ j =>
        have b : ix (i :: is) ((j + 1 : Nat) : Int) = ix is (j : Int) := by simp [ix]
        have e : ix (d :: ds) ((j + 1 : Nat) : Int) = ix ds (j : Int) := by simp [ix]
        rw [b, e]
        exact ih h.2 (by simpa using a)
theorem mM {a b M N : Int} (e : 0 ≤ a) (h1 : a ≤ M) (h2 : -N ≤ b) (g : b ≤ N) (h : 0 ≤ N) : -(M * N) ≤ a * b ∧ a * b ≤ M * N := by
  have j : a * b ≤ a * N := Int.mul_le_mul_of_nonneg_left g e
  have m : a * N ≤ M * N := Int.mul_le_mul_of_nonneg_right h1 h
  have i : a * (-N) ≤ a * b := Int.mul_le_mul_of_nonneg_left h2 e
  rw [Int.mul_neg] at i
  omega
theorem iL {α : Type} (xs : List α) {l : Int} : sub xs l (xs.length : Int) = xs.drop l.toNat := by simp [sub]
theorem rz {v : View} {is : List Int} (h : eL v.Dims) (E : v.Strides.length = v.Dims.length) (u : ∀ s ∈ v.Strides, -4096 ≤ s ∧ s ≤ 4096) (G : 0 ≤ v.Offset ∧ v.Offset ≤ 4096) (i : IV v.Dims is) : Z0d v is = some (v.Offset + zs (· * ·) is v.Strides) := by
  have q := i.len
  have F := h.1
  unfold Z0d
  have a : ∀ j : Nat, j < is.length → -(4096 * 4096) ≤ ix is (j : Int) * ix v.Strides (j : Int) ∧ ix is (j : Int) * ix v.Strides (j : Int) ≤ 4096 * 4096 := by
    intro j b
    have h1 := i.mem b
    have h2 := h.2.mem (bJ (xs := v.Dims) (k := j) (by omega))
    have g := u _ (bJ (xs := v.Strides) (k := j) (by omega))
    exact mM h1.1 (by omega) g.1 g.2 (by omega)
  have bd : ∀ j, j ≤ is.length → -(6 * (4096 * 4096)) ≤ zs (· * ·) (is.take j) (v.Strides.take j) ∧ zs (· * ·) (is.take j) (v.Strides.take j) ≤ 6 * (4096 * 4096) := by
    intro j b
    have := sF (· * ·) (xs := is) (ys := v.Strides) (M := 4096 * 4096) (by omega) a b
    have e : (j : Int) ≤ 6 := by omega
    have := Int.mul_le_mul_of_nonneg_right e (show (0 : Int) ≤ 4096 * 4096 by omega)
    omega
  have := dN (f := fun s : Int × Int => Z0d_L1 v is s.1 s.2) (r := v.Offset + zs (· * ·) is v.Strides) (fun j => (v.Offset + zs (· * ·) (is.take j) (v.Strides.take j), (j : Int))) is.length
    (fun j b => by
      have t := a j b
      have m := bd (j + 1) (by omega)
      have D := bd j (by omega)
      rw [hW (· * ·) b (by omega)] at m
      simp only [Z0d_L1]
      rw [if_pos (by simp; omega), if_pos (by omega), if_pos (by omega), aX (n := ix is (j : Int) * ix v.Strides (j : Int)) (by omega) (by omega), aX (by omega) (by omega), cR (by unfold cP; omega), hW (· * ·) b (by omega), Int.add_assoc])
    (by simp only [Z0d_L1]; rw [if_neg (by simp), List.take_length, List.take_of_length_le (by omega)])
    (s := (v.Offset, 0)) (by simp [zs])
  rw [this]
  rfl
def mN (a ss : List Int) (b : Int) : List Int := (List.range (pr a).toNat).map fun k : Nat => b + zs (· * ·) (dX a (k : Int)) ss
theorem sG {v : View} (h : eL v.Dims) (a : v.Strides.length = v.Dims.length) (g : ∀ s ∈ v.Strides, -4096 ≤ s ∧ s ≤ 4096) (b : 0 ≤ v.Offset ∧ v.Offset ≤ 4096) : Z06 v = some (mN v.Dims v.Strides v.Offset) := by
  have m := h.1
  have q := h.2.pos
  have e := h.2.2
  unfold Z06
  rw [gS (by unfold cP; omega), if_pos h.2]
  simp only [Option.bind_some]
  have := dN (f := fun s : List Int × Int => Z06_L1 v (pr v.Dims) s.1 s.2) (r := mN v.Dims v.Strides v.Offset) (fun j => ((List.range j).map fun k : Nat => v.Offset + zs (· * ·) (dX v.Dims (k : Int)) v.Strides, (j : Int))) (pr v.Dims).toNat
    (fun j i => by
      simp only [Z06_L1]
      rw [if_pos (by simp; omega), jA h (by omega) (by omega)]
      simp only [Option.bind_some]
      rw [rz h a g b (f7 h.2.1 _)]
      simp only [Option.bind_some]
      rw [if_pos (by simp; omega), cR (by unfold cP; omega), List.range_succ, List.map_append]
      rfl)
    (by simp only [Z06_L1]; rw [if_neg (by simp; omega)]; rfl)
    (s := ([], 0)) rfl
  rw [this]
  rfl
theorem m5 (ss : List Int) (h : ∀ s ∈ ss, -4096 ≤ s ∧ s ≤ 4096) : (ss.all fun x => !(decide (x < -4096) || decide (x > 4096))) = true := by
  rw [List.all_eq_true]
  intro x a
  have := h x a
  simp; omega
theorem mO {v : View} (h : VG v.Dims v.Strides v.Offset v.Base) : Zc v = some true := by
  have E := h.d.1
  have g := h.l
  have D := h.b
  have F := h.o
  unfold Zc
  rw [gT (by unfold cP; omega)]
  simp only [h.d, decide_true, Option.bind_some]
  rw [if_neg (by simp; omega)]
  have q := eP v.Strides (fun s : Int => Zc_L1 v s) (fun i => i) (fun x => !(decide (x < -4096) || decide (x > 4096))) (.inl false) (.inr ())
    (fun k a => by
      simp only [Zc_L1]
      rw [if_pos (by simp; omega), if_pos (by omega), cR (by unfold cP; omega)]
      cases (decide (ix v.Strides (k : Int) < -4096) || decide (ix v.Strides (k : Int) > 4096)) <;> rfl)
    (by simp only [Zc_L1]; rw [if_neg (by simp)])
  rw [q, m5 _ h.s]
  simp only [if_true, Option.bind_some, Zc_J1]
  rw [sG h.d g h.s ⟨by omega, by omega⟩]
  simp only [Option.bind_some]
  have j : (mN v.Dims v.Strides v.Offset).length ≤ 4096 := by have := h.d.2.2; simp [mN]; omega
  have u := eP (mN v.Dims v.Strides v.Offset) (fun s : Int => Zc_L2 v (mN v.Dims v.Strides v.Offset) s) (fun i => i) (fun x => !(decide (x < 0) || decide (x ≥ v.Base))) (.inl false) (.inr ())
    (fun k a => by
      simp only [Zc_L2]
      rw [if_pos (by simp; omega), if_pos (by omega), cR (by unfold cP; omega)]
      cases (decide (ix (mN v.Dims v.Strides v.Offset) (k : Int) < 0) || decide (ix (mN v.Dims v.Strides v.Offset) (k : Int) ≥ v.Base)) <;> rfl)
    (by simp only [Zc_L2]; rw [if_neg (by simp)])
  have e : ((mN v.Dims v.Strides v.Offset).all fun x => !(decide (x < 0) || decide (x ≥ v.Base))) = true := by
    rw [List.all_eq_true]
    intro x m
    obtain ⟨k, _, rfl⟩ := List.mem_map.1 m
    have := h.place (f7 h.d.2.1 (k : Int))
    simp; omega
  rw [u, e]
  rfl
theorem nv : Zc ⟨[], [], 0, 0⟩ = some false := by
  unfold Zc
  rw [gT (by simp [cP])]
  rfl
theorem ny : Zo ⟨[], [], 0, 0⟩ = some false := by
  unfold Zo
  rw [f' (by simp [cP])]
  rfl
theorem mP {v : View} (h : VG v.Dims v.Strides v.Offset v.Base) : Zo v = some true := by
  have hn := h.d.1
  have U := h.l
  have T := h.b
  have ho := h.o
  unfold Zo
  rw [f' (by unfold cP; omega)]
  simp only [h.d, decide_true, Option.bind_some]
  rw [if_neg (by simp; omega)]
  have e : ∀ j : Nat, j < v.Dims.length → -(4096 * 4096) ≤ ix v.Strides (j : Int) * (ix v.Dims (j : Int) - 1) ∧ ix v.Strides (j : Int) * (ix v.Dims (j : Int) - 1) ≤ 4096 * 4096 := by
    intro j a
    have h2 := h.d.2.mem (bJ (xs := v.Dims) (k := j) a)
    have i := h.s _ (bJ (xs := v.Strides) (k := j) (by omega))
    rw [Int.mul_comm (ix v.Strides (j : Int))]
    exact mM (by omega) (by omega) i.1 i.2 (by omega)
  have bd : ∀ (f : Int → Int → Int), (f = lw ∨ f = hw) → ∀ j, j ≤ v.Dims.length → -(6 * (4096 * 4096)) ≤ zs f (v.Dims.take j) (v.Strides.take j) ∧ zs f (v.Dims.take j) (v.Strides.take j) ≤ 6 * (4096 * 4096) := by
    intro f E j a
    have := sF f (xs := v.Dims) (ys := v.Strides) (M := 4096 * 4096) (by omega) (fun j a => by
      have := e j a
      rcases E with rfl | rfl
      · unfold lw; split <;> omega
      · unfold hw; split <;> omega) a
    have g : (j : Int) ≤ 6 := by omega
    have := Int.mul_le_mul_of_nonneg_right g (show (0 : Int) ≤ 4096 * 4096 by omega)
    omega
  have := dN (f := fun s : Int × Int × Int => Zo_L1 v s.1 s.2.1 s.2.2) (r := .inr (v.Offset + zs lw v.Dims v.Strides, v.Offset + zs hw v.Dims v.Strides)) (fun j => (v.Offset + zs lw (v.Dims.take j) (v.Strides.take j), v.Offset + zs hw (v.Dims.take j) (v.Strides.take j), (j : Int))) v.Dims.length
    (fun j a => by
      have t := e j a
      have a0 := bd lw (.inl rfl) j (by omega)
      have I := bd lw (.inl rfl) (j + 1) (by omega)
      have J := bd hw (.inr rfl) j (by omega)
      have L := bd hw (.inr rfl) (j + 1) (by omega)
      have F := hW lw (xs := v.Dims) (ys := v.Strides) (j := j) (by omega) (by omega)
      have G := hW hw (xs := v.Dims) (ys := v.Strides) (j := j) (by omega) (by omega)
      have hs := h.s _ (bJ (xs := v.Strides) (k := j) (by omega))
      have hm := h.d.2.mem (bJ (xs := v.Dims) (k := j) a)
      simp only [Zo_L1]
      rw [if_pos (by simp; omega), if_pos (by omega), if_neg (by simp; omega), if_pos (by omega)]
      have m : aG (ix v.Dims (j : Int) - 1) = ix v.Dims (j : Int) - 1 := aX (by omega) (by omega)
      have q : aG (ix v.Strides (j : Int) * (ix v.Dims (j : Int) - 1)) = ix v.Strides (j : Int) * (ix v.Dims (j : Int) - 1) := aX (by omega) (by omega)
      have u : lw (ix v.Dims (j : Int)) (ix v.Strides (j : Int)) = if ix v.Strides (j : Int) * (ix v.Dims (j : Int) - 1) < 0 then ix v.Strides (j : Int) * (ix v.Dims (j : Int) - 1) else 0 := rfl
      have D : hw (ix v.Dims (j : Int)) (ix v.Strides (j : Int)) = if ix v.Strides (j : Int) * (ix v.Dims (j : Int) - 1) > 0 then ix v.Strides (j : Int) * (ix v.Dims (j : Int) - 1) else 0 := rfl
      rw [m, q, ← u, ← D, aX (by omega) (by omega), aX (by omega) (by omega), cR (by unfold cP; omega), F, G, Int.add_assoc, Int.add_assoc])
    (by simp only [Zo_L1]; rw [if_neg (by simp; omega), List.take_length, List.take_of_length_le (by omega)])
    (s := (v.Offset, v.Offset, 0)) (by simp [zs])
  rw [this]
  have := h.lo
  have := h.hi
  simp only [Option.bind_some, Zo_J1]
  congr 1
  simp; omega
def oq : List Int → List Int
  | [] => []
  | _ :: ds => pr ds :: oq ds
def g0 : List Int → List Int
  | [] => []
  | d :: ds => (if d > 1 then pr ds else 0) :: g0 ds
theorem fP (ds : List Int) : (oq ds).length = ds.length := by
  induction ds with
  | nil => rfl
  | cons d ds ih => simp [oq, ih]
theorem fg (ds : List Int) : (g0 ds).length = ds.length := by
  induction ds with
  | nil => rfl
  | cons d ds ih => simp [g0, ih]
theorem eK {α : Type} [Inhabited α] (x : α) (xs : List α) (j : Nat) : ix (x :: xs) ((j + 1 : Nat) : Int) = ix xs (j : Int) := by simp [ix]
theorem pC {ds : List Int} {j : Nat} (h : j < ds.length) : ix (oq ds) (j : Int) = pr (ds.drop (j + 1)) := by
  induction ds generalizing j with
  | nil => simp at h
  | cons d ds ih => cases j with
    | zero => rfl
    | succ j => rw [oq, eK, ih (by simpa using h)]; rfl
theorem pD {ds : List Int} {j : Nat} (h : j < ds.length) : ix (g0 ds) (j : Int) = if ix ds (j : Int) > 1 then pr (ds.drop (j + 1)) else 0 := by
  induction ds generalizing j with
  | nil => simp at h
  | cons d ds ih => cases j with
    | zero => rfl
    | succ j => rw [g0, eK, eK, ih (by simpa using h)]; rfl
theorem mQ {L xs : List Int} (b : L.length = xs.length) {j : Nat} (a : j < xs.length) : (L.take j ++ xs.drop j).set j (ix L (j : Int)) = L.take (j + 1) ++ xs.drop (j + 1) := by
  rw [cB (by omega), List.set_append_right _ _ (by simp; omega), List.take_succ_eq_append_getElem (by omega)]
  have : j - (L.take j).length = 0 := by simp; omega
  rw [this, List.drop_eq_getElem_cons a, List.set_cons_zero, List.append_assoc]
  rfl
theorem rA {L xs : List Int} (b : L.length = xs.length) {j : Nat} (a : j < xs.length) (h : ix L (j : Int) = ix xs (j : Int)) : L.take j ++ xs.drop j = L.take (j + 1) ++ xs.drop (j + 1) := by
  rw [cB (by omega), cB a] at h
  rw [List.take_succ_eq_append_getElem (by omega), List.drop_eq_getElem_cons a, h]
  simp
theorem gv {ds : List Int} (h : SZ ds) : ∀ s ∈ g0 ds, 0 ≤ s ∧ s ≤ 4096 := by
  induction ds with
  | nil => intro s b; cases b
  | cons d ds ih =>
    have e := h.tail.pos
    have a := h.tail.2
    refine List.forall_mem_cons.2 ⟨?_, ih h.tail⟩
    split <;> omega
theorem pE {ds : List Int} (h : SZ ds) : zs lw ds (g0 ds) = 0 := by
  induction ds with
  | nil => rfl
  | cons d ds ih =>
    have a := h.1 d (by simp)
    have b := h.tail.pos
    simp only [g0, zs, ih h.tail]
    unfold lw
    split
    · have := Int.mul_nonneg (show 0 ≤ pr ds by omega) (show 0 ≤ d - 1 by omega); split <;> omega
    · simp
theorem pF {ds : List Int} (h : SZ ds) : zs hw ds (g0 ds) = pr ds - 1 := by
  induction ds with
  | nil => rfl
  | cons d ds ih =>
    have a := h.1 d (by simp)
    have b := h.tail.pos
    simp only [g0, zs, ih h.tail]
    have e : pr (d :: ds) = pr ds * (d - 1) + pr ds := by simp only [pr]; rw [Int.mul_sub, Int.mul_comm (pr ds) d]; omega
    rw [e]
    unfold hw
    by_cases c : d > 1
    · have : 0 < pr ds * (d - 1) := Int.mul_pos (by omega) (by omega)
      rw [if_pos c, if_pos this]; omega
    · have : d = 1 := by omega
      subst this; simp
theorem pG {ds : List Int} (h : eL ds) : VG ds (g0 ds) 0 (pr ds) := by
  have b := h.2.pos
  have a := h.2.2
  refine ⟨h, fg ds, ⟨b, a⟩, ⟨by omega, by omega⟩, fun s e => by have := gv h.2 s e; omega, ?_, ?_⟩
  · rw [pE h.2]; decide
  · rw [pF h.2]; omega
theorem j3 {ds is : List Int} (a : IV ds is) : zs (· * ·) is (g0 ds) = fA ds is := by
  induction ds generalizing is with
  | nil => cases is with
    | nil => rfl
    | cons => exact a.elim
  | cons d ds ih => cases is with
    | nil => exact a.elim
    | cons i is =>
      have := a.1
      simp only [g0, zs, fA, ih a.2]
      split
      · rfl
      · have : i = 0 := by omega
        subst this; simp
def whole (ds : List Int) : View := ⟨ds, g0 ds, 0, pr ds⟩
def eX : View := ⟨[], [], 0, 0⟩
theorem rB {ds : List Int} (h : eL ds) : Zu ⟨ds, oq ds, 0, pr ds⟩ = some (whole ds) := by
  have g := h.1
  unfold Zu
  have := dN (f := fun s : Int × List Int => Zu_L1 ⟨ds, oq ds, 0, pr ds⟩ s.1 s.2) (r := g0 ds) (fun j => ((j : Int), (g0 ds).take j ++ (oq ds).drop j)) ds.length
    (fun j a => by
      have b := h.2.mem (bJ a)
      simp only [Zu_L1, Zu_J2]
      rw [if_pos (by simp; omega), if_pos (by omega)]
      by_cases c : ix ds (j : Int) = 1
      · rw [if_pos (by simp [c]), if_pos (by rw [fP]; omega), cR (by unfold cP; omega)]
        have e := mQ (L := g0 ds) (xs := oq ds) (by rw [fg, fP]) (j := j) (by rw [fP]; omega)
        rw [pD a, if_neg (by omega)] at e
        simp only [Int.toNat_natCast]
        rw [e]
      · rw [if_neg (by simp [c]), cR (by unfold cP; omega), rA (by rw [fg, fP]) (by rw [fP]; omega) (by rw [pD a, pC a, if_pos (by omega)])])
    (by simp only [Zu_L1]; rw [if_neg (by simp)]; rw [List.take_of_length_le (by rw [fg]; omega), List.drop_of_length_le (by rw [fP]; omega), List.append_nil])
    (s := (0, oq ds)) (by simp)
  rw [this]
  rfl
theorem jB {ds : List Int} (h : eL ds) : Z01 ds = some (whole ds) := by
  have b := h.1
  unfold Z01
  rw [gT (by unfold cP; omega)]
  simp only [h, decide_true, Option.bind_some, Bool.not_true, Bool.false_eq_true, if_false]
  rw [io (by omega), gS (by unfold cP; omega), if_pos h.2]
  simp only [Option.bind_some]
  have := dN (f := fun s : List Int × Int => Z01_L1 ds s.1 s.2) (r := oq ds) (fun j => ((oq ds).take j, (j : Int))) ds.length
    (fun j a => by
      simp only [Z01_L1]
      rw [if_pos (by simp; omega), cR (by unfold cP; omega), if_pos (by omega), iL, Int.toNat_natCast, gS (by simp [cP]; omega), if_pos (h.2.drop (j + 1))]
      simp only [Option.bind_some]
      rw [if_pos (by simp; omega), List.take_succ_eq_append_getElem (by rw [fP]; omega), ← pC a, cB (by rw [fP]; omega)])
    (by simp only [Z01_L1]; rw [if_neg (by simp), List.take_of_length_le (by rw [fP]; omega)])
    (s := ([], 0)) rfl
  rw [this]
  simp only [Option.bind_some, Z01_J1]
  rw [rB h]
  rfl
theorem kY {ds : List Int} (h : eL ds) : Zl ds = some (g0 ds) := by
  have G := h.1
  unfold Zl
  rw [if_pos (by omega)]
  have := dN (f := fun s : List Int × Int × Int => Zl_L1 ds s.1 s.2.1 s.2.2) (r := g0 ds)
    (fun j => (List.replicate (ds.length - j) 0 ++ g0 (ds.drop (ds.length - j)), pr (ds.drop (ds.length - j)), (ds.length : Int) - 1 - j)) ds.length
    (fun j E => by
      obtain ⟨i, u⟩ : ∃ i, i = ds.length - (j + 1) := ⟨_, rfl⟩
      have m : ds.length - j = i + 1 := by omega
      have q : (ds.length : Int) - 1 - (j : Int) = (i : Int) := by omega
      have a : i < ds.length := by omega
      have F := h.2.mem (bJ a)
      have I := (h.2.drop (i + 1)).pos
      have D := (h.2.drop (i + 1)).2
      have b : ds.drop i = ix ds (i : Int) :: ds.drop (i + 1) := by rw [List.drop_eq_getElem_cons a, cB a]
      have e : pr (ds.drop i) = pr (ds.drop (i + 1)) * ix ds (i : Int) := by rw [b]; simp [pr, Int.mul_comm]
      simp only [Zl_L1, Zl_J2, m, q, ← u]
      rw [if_pos (by simp), if_pos (by omega)]
      have g : aG ((i : Int) - 1) = (ds.length : Int) - 1 - ((j + 1 : Nat) : Int) := by rw [aX (by omega) (by omega)]; omega
      by_cases c : ix ds (i : Int) > 1
      · rw [if_pos (by simp; omega), if_pos (by simp; omega), if_pos (by omega), fO (by omega) (by omega) (by omega) (by omega), ← e, g]
        congr 3
        rw [b, List.replicate_succ', List.set_append_left _ _ (by simp), List.set_append_right _ _ (by simp)]
        simp [g0, c]
      · rw [if_neg (by simp; omega), if_pos (by omega), fO (by omega) (by omega) (by omega) (by omega), ← e, g]
        congr 3
        rw [b, List.replicate_succ']
        simp [g0, c])
    (by
      simp only [Zl_L1, Nat.sub_self, List.drop_zero, List.replicate_zero, List.nil_append]
      rw [if_neg (by simp; omega)])
    (s := (List.replicate (ds.length : Int).toNat 0, 1, aG ((ds.length : Int) - 1))) (by
      rw [aX (by omega) (by omega)]
      simp [pr, g0])
  rw [this]
  rfl
theorem jC {ds : List Int} (h : eL ds) : Z14 ds = some (whole ds) := by
  have a := h.1
  unfold Z14
  rw [f' (by unfold cP; omega)]
  simp only [h, decide_true, Option.bind_some, Bool.not_true, Bool.false_eq_true, if_false]
  rw [gu (by omega), kY h, im (by unfold cP; omega) h.2]
  rfl
def fC (n : Nat) : List Int := List.replicate n 0
def kt : List Int → List Int → Option (List Int)
  | d :: ds, i :: is => match kt ds is with
    | some q => some (i :: q)
    | none => if i + 1 < d then some ((i + 1) :: fC ds.length) else none
  | _, _ => none
theorem m6 {ds is : List Int} (h : is.length = ds.length) (d i : Int) : kt (ds ++ [d]) (is ++ [i]) = if i + 1 < d then some (is ++ [i + 1]) else (kt ds is).map (· ++ [0]) := by
  induction ds generalizing is with
  | nil => cases is with
    | nil => simp [kt, fC]
    | cons => simp at h
  | cons e ds ih => cases is with
    | nil => simp at h
    | cons j is =>
      have := ih (is := is) (by simpa using h)
      simp only [List.cons_append, kt, this]
      by_cases c : i + 1 < d
      · simp [c]
      · simp only [c, if_false]
        cases kt ds is with
        | some q => simp
        | none =>
          simp only [Option.map_none]
          split
          · simp [fC, List.replicate_succ']
          · simp
theorem kZ {ds : List Int} (h : ∀ d ∈ ds, 1 ≤ d) {m : Int} (D : m % pr ds = 0) : dX ds m = fC ds.length := by
  induction ds generalizing m with
  | nil => rfl
  | cons d ds ih =>
    have i : 1 ≤ pr ds := dJ fun x g => h x (by simp [g])
    have u := h d (by simp)
    have e := (pz (k := m) i u).2
    have a := Int.emod_nonneg m (show pr ds ≠ 0 by omega)
    have c := Int.emod_nonneg (m / pr ds) (show d ≠ 0 by omega)
    have F : m % (d * pr ds) = 0 := D
    have b := Int.mul_nonneg c (show 0 ≤ pr ds by omega)
    have E := fZ c i
    have j : m % pr ds = 0 := by omega
    have q : m / pr ds % d = 0 := by omega
    simp only [dX, q, ih (fun x g => h x (by simp [g])) j]
    simp [fC, List.replicate_succ]
theorem jD {ds : List Int} (h : ∀ d ∈ ds, 1 ≤ d) (k : Int) : kt ds (dX ds k) = if k % pr ds + 1 < pr ds then some (dX ds (k + 1)) else none := by
  induction ds generalizing k with
  | nil => simp [kt, pr, Int.emod_one]
  | cons d ds ih =>
    have F : 1 ≤ pr ds := dJ fun x j => h x (by simp [j])
    have E := h d (by simp)
    have m : ∀ x ∈ ds, 1 ≤ x := fun x j => h x (by simp [j])
    have e := (pz (k := k) F E).2
    have a := Int.emod_nonneg k (show pr ds ≠ 0 by omega)
    have G := Int.emod_lt_of_pos k (show 0 < pr ds by omega)
    have c := Int.emod_nonneg (k / pr ds) (show d ≠ 0 by omega)
    have J := Int.emod_lt_of_pos (k / pr ds) (show 0 < d by omega)
    have L := Int.mul_ediv_add_emod k (pr ds)
    have i : pr (d :: ds) = d * pr ds := rfl
    have b : (k / pr ds % d + 1) * pr ds ≤ d * pr ds := Int.mul_le_mul_of_nonneg_right (by omega) (by omega)
    rw [Int.add_mul] at b
    simp only [dX, kt, ih m]
    by_cases q : k % pr ds + 1 < pr ds
    · have f := (Int.ediv_emod_unique (a := k + 1) (b := pr ds) (r := k % pr ds + 1) (q := k / pr ds) (by omega)).2 ⟨by omega, by omega, by omega⟩
      simp only [if_pos q, f.1]
      rw [if_pos (show k % pr (d :: ds) + 1 < pr (d :: ds) by rw [i, e]; omega)]
    · have T : k % pr ds = pr ds - 1 := by omega
      have f := (Int.ediv_emod_unique (a := k + 1) (b := pr ds) (r := 0) (q := k / pr ds + 1) (by omega)).2 ⟨by rw [Int.mul_add]; omega, by omega, by omega⟩
      simp only [if_neg q, f.1]
      by_cases g : k / pr ds % d + 1 < d
      · have M := Int.mul_ediv_add_emod (k / pr ds) d
        have D := (Int.ediv_emod_unique (a := k / pr ds + 1) (b := d) (r := k / pr ds % d + 1) (q := k / pr ds / d) (by omega)).2 ⟨by omega, by omega, by omega⟩
        have u : (k / pr ds % d + 2) * pr ds ≤ d * pr ds := Int.mul_le_mul_of_nonneg_right (by omega) (by omega)
        rw [Int.add_mul] at u
        rw [if_pos g, if_pos (show k % pr (d :: ds) + 1 < pr (d :: ds) by rw [i, e]; omega), D.2, kZ m f.2]
      · have g1 : k / pr ds % d = d - 1 := by omega
        have I : k / pr ds % d * pr ds = d * pr ds - pr ds := by rw [g1, Int.sub_mul]; omega
        rw [if_neg g, if_neg (show ¬ k % pr (d :: ds) + 1 < pr (d :: ds) by rw [i, e]; omega)]
theorem l8 (f : Int → Int → Int) {xs ys : List Int} {j : Nat} {a : Int} (b : j < xs.length) (e : j < ys.length) : zs f (xs.set j a) ys = zs f xs ys - f (ix xs (j : Int)) (ix ys (j : Int)) + f a (ix ys (j : Int)) := by
  induction xs generalizing ys j with
  | nil => simp at b
  | cons x xs ih => cases ys with
    | nil => simp at e
    | cons y ys => cases j with
      | zero => simp [zs, ix]; omega
      | succ j =>
        rw [eK, eK, List.set_cons_succ]
        simp only [zs, ih (ys := ys) (j := j) (by simpa using b) (by simpa using e)]
        omega
theorem m7 {T : Type} {YF : T → Int → Option (T × Bool)} {ds ss : List Int} {m base : Int} (h : VG ds ss m base) {is : List Int} (G : IV ds is) : ∀ p, p ≤ ds.length →
    (∀ q, kt (ds.take p) (is.take p) = some q → ∃ i : Int, 0 ≤ i ∧ bC (fun s : List Int × Int × Int => Zk_L2 T YF ds ss s.1 s.2.1 s.2.2) (is.take p ++ fC (ds.length - p), m + zs (· * ·) (is.take p ++ fC (ds.length - p)) ss, (p : Int) - 1) = some (q ++ fC (ds.length - p), m + zs (· * ·) (q ++ fC (ds.length - p)) ss, i)) ∧
    (kt (ds.take p) (is.take p) = none → ∃ x y, bC (fun s : List Int × Int × Int => Zk_L2 T YF ds ss s.1 s.2.1 s.2.2) (is.take p ++ fC (ds.length - p), m + zs (· * ·) (is.take p ++ fC (ds.length - p)) ss, (p : Int) - 1) = some (x, y, -1)) := by
  intro p
  have hn := h.d.1
  have hl := h.l
  have a9 := G.len
  induction p with
  | zero =>
    intro _
    refine ⟨fun q D => by simp [kt] at D, fun _ => ⟨is.take 0 ++ fC (ds.length - 0), m + zs (· * ·) (is.take 0 ++ fC (ds.length - 0)) ss, eD ?_⟩⟩
    simp only [Zk_L2]
    rw [if_neg (by simp)]
    rfl
  | succ p ih =>
    intro I
    obtain ⟨a6, a7⟩ := ih (by omega)
    have hm := G.mem (j := p) (by omega)
    have a8 := h.d.2.mem (bJ (xs := ds) (k := p) (by omega))
    have a2 := h.s _ (bJ (xs := ss) (k := p) (by omega))
    have ti : is.take (p + 1) = is.take p ++ [ix is (p : Int)] := by rw [List.take_succ_eq_append_getElem (by omega), cB (by omega)]
    have td : ds.take (p + 1) = ds.take p ++ [ix ds (p : Int)] := by rw [List.take_succ_eq_append_getElem (by omega), cB (by omega)]
    have a1 : (is.take p).length = (ds.take p).length := by simp; omega
    have J := m6 a1 (ix ds (p : Int)) (ix is (p : Int))
    rw [← ti, ← td] at J
    obtain ⟨g, u⟩ : ∃ g, g = is.take (p + 1) ++ fC (ds.length - (p + 1)) := ⟨_, rfl⟩
    have a4 : g.length = ds.length := by rw [u]; simp [fC]; omega
    have a0 : ix g (p : Int) = ix is (p : Int) := by
      have a5 : p < g.length := by omega
      rw [cB a5, cB (by omega)]
      subst u
      rw [List.getElem_append_left (by simp; omega)]
      simp
    have E : ∀ a : Int, g.set p a = is.take p ++ a :: fC (ds.length - (p + 1)) := by
      intro a
      rw [u, ti, List.append_assoc, List.set_append_right _ _ (by simp; omega)]
      have : p - (is.take p).length = 0 := by simp; omega
      rw [this]
      rfl
    have U : ∀ a : Int, 0 ≤ a → a < ix ds (p : Int) → 0 ≤ m + zs (· * ·) (g.set p a) ss ∧ m + zs (· * ·) (g.set p a) ss ≤ 4096 := by
      intro a h0 h1
      have a3 : ∀ (ds is : List Int), IV ds is → (∀ d ∈ ds, 1 ≤ d) → ∀ p, p < ds.length → 0 ≤ a → a < ix ds (p : Int) → IV ds (is.take p ++ a :: fC (ds.length - (p + 1))) := by
        intro ds
        induction ds with
        | nil => intro is _ _ p I; simp at I
        | cons d ds ihd =>
          intro is G F p I h0 h1
          cases is with
          | nil => exact G.elim
          | cons i is =>
            cases p with
            | zero =>
              refine ⟨⟨h0, h1⟩, ?_⟩
              have hz : ∀ ds : List Int, (∀ d ∈ ds, 1 ≤ d) → IV ds (fC ds.length) := by
                intro ds
                induction ds with
                | nil => intro _; trivial
                | cons d ds ihz => intro I; exact ⟨⟨Int.le_refl 0, by have := I d (by simp); omega⟩, ihz fun x hx => I x (by simp [hx])⟩
              exact hz ds fun x hx => F x (by simp [hx])
            | succ p =>
              rw [eK] at h1
              have := ihd is G.2 (fun x hx => F x (by simp [hx])) p (by simpa using I) h0 h1
              refine ⟨G.1, ?_⟩
              simpa using this
      have := h.place (a3 ds is G h.d.2.1 p (by omega) h0 h1)
      have := h.b
      rw [E]
      omega
    have L := fun a => l8 (· * ·) (xs := g) (ys := ss) (j := p) (a := a) (by omega) (by omega)
    rw [a0] at L
    have b0 := U (ix is (p : Int)) hm.1 hm.2
    have e0 : g.set p (ix is (p : Int)) = g := by rw [E, u, ti]; simp
    rw [e0] at b0
    have hF : Zk_L2 T YF ds ss g (m + zs (· * ·) g ss) ((p + 1 : Nat) - 1 : Int) = if ix is (p : Int) + 1 < ix ds (p : Int) then some (.inr (g.set p (ix is (p : Int) + 1), m + zs (· * ·) (g.set p (ix is (p : Int) + 1)) ss, (p : Int))) else some (.inl (g.set p 0, m + zs (· * ·) (g.set p 0) ss, (p : Int) - 1)) := by
      have ep : ((p + 1 : Nat) - 1 : Int) = (p : Int) := by omega
      have w1 : aG (ix is (p : Int) + 1) = ix is (p : Int) + 1 := aX (by omega) (by omega)
      have w2 : aG (m + zs (· * ·) g ss + ix ss (p : Int)) = m + zs (· * ·) g ss + ix ss (p : Int) := aX (by omega) (by omega)
      have mb := mM (a := ix ds (p : Int)) (b := ix ss (p : Int)) (M := 4096) (N := 4096) (by omega) (by omega) a2.1 a2.2 (by omega)
      rw [Int.mul_comm (ix ds (p : Int))] at mb
      have w3 : aG (ix ss (p : Int) * ix ds (p : Int)) = ix ss (p : Int) * ix ds (p : Int) := aX (by omega) (by omega)
      have e1 : ix (g.set p (ix is (p : Int) + 1)) (p : Int) = ix is (p : Int) + 1 := by rw [cB (by simp; omega)]; simp
      rw [ep]
      simp only [Zk_L2, Int.toNat_natCast, a0, w1, w2, w3, e1]
      rw [if_pos (by simp), if_pos (by simp; omega), if_pos (by omega), if_pos (by omega)]
      by_cases c : ix is (p : Int) + 1 < ix ds (p : Int)
      · rw [if_pos (by simpa using c), if_pos c, L (ix is (p : Int) + 1), Int.add_mul]
        congr 4
        omega
      · rw [if_neg (by simpa using c), if_neg c]
        have em : ix ss (p : Int) * ix ds (p : Int) = ix is (p : Int) * ix ss (p : Int) + ix ss (p : Int) := by
          rw [show ix ds (p : Int) = ix is (p : Int) + 1 by omega, Int.mul_add, Int.mul_comm]; omega
        have bz := U 0 (by omega) (by omega)
        have z0 := L 0
        simp only [Int.zero_mul] at z0
        rw [nm, Option.bind_some, List.set_set, aX (by omega) (by omega), aX (by omega) (by omega), z0]
        congr 4
        omega
    rw [← u]
    by_cases c : ix is (p : Int) + 1 < ix ds (p : Int)
    · rw [if_pos c] at hF J
      refine ⟨fun q D => ⟨(p : Int), by omega, ?_⟩, fun D => by rw [J] at D; cases D⟩
      rw [J] at D
      cases D
      rw [eD hF, E]
      simp
    · rw [if_neg c] at hF J
      have e2 : g.set p 0 = is.take p ++ fC (ds.length - p) := by
        rw [E, show ds.length - p = (ds.length - (p + 1)) + 1 by omega]; rfl
      rw [e2] at hF
      rw [eV hF]
      refine ⟨fun q D => ?_, fun D => a7 (by rw [J] at D; simpa using D)⟩
      rw [J] at D
      cases e : kt (ds.take p) (is.take p) with
      | none => rw [e] at D; cases D
      | some q' =>
        rw [e] at D
        cases D
        obtain ⟨i, h1, h2⟩ := a6 q' e
        refine ⟨i, h1, ?_⟩
        rw [h2]
        have : fC (ds.length - p) = 0 :: fC (ds.length - (p + 1)) := by rw [show ds.length - p = (ds.length - (p + 1)) + 1 by omega]; rfl
        rw [this]
        simp
theorem oe {g : Type} {YF : g → Int → Option (g × Bool)} {ds ss : List Int} {b base : Int} (h : VG ds ss b base) (I : Nat → g → Prop)
    (E : ∀ (k : Nat) y, (k : Int) < pr ds → I k y → ∃ a, YF y (b + zs (· * ·) (dX ds (k : Int)) ss) = some (a, true) ∧ I (k + 1) a) {y : g} (L : I 0 y) :
    ∃ a, Zk g YF y ds b ss = some a ∧ I (pr ds).toNat a := by
  have hn := h.d.1
  have hp := h.d.2.pos
  unfold Zk
  rw [if_pos (by omega)]
  have D : ∀ m k y, k + 1 + m = (pr ds).toNat → I k y → ∃ a, bC (fun s : List Int × Int × g => Zk_L1 g YF ds ss s.1 s.2.1 s.2.2) (dX ds (k : Int), b + zs (· * ·) (dX ds (k : Int)) ss, y) = some a ∧ I (pr ds).toNat a := by
    intro m
    induction m with
    | zero =>
      intro k y M u
      obtain ⟨a, h1, h2⟩ := E k y (by omega) u
      obtain ⟨_, j⟩ := m7 (YF := YF) h (f7 h.d.2.1 (k : Int)) ds.length (Nat.le_refl _)
      rw [List.take_length, List.take_of_length_le (by rw [fE]; omega), Nat.sub_self] at j
      have e : kt ds (dX ds (k : Int)) = none := by
        rw [jD h.d.2.1, Int.emod_eq_of_lt (by omega) (by omega), if_neg (by omega)]
      obtain ⟨x, z, q⟩ := j e
      refine ⟨a, eD ?_, by rw [show (pr ds).toNat = k + 1 by omega]; exact h2⟩
      simp only [Zk_L1, h1, Option.bind_some, Bool.not_true, Bool.false_eq_true, if_false]
      rw [aX (by omega) (by omega)]
      simp only [fC, List.replicate_zero, List.append_nil] at q
      rw [q]
      rfl
    | succ m ih =>
      intro k y M u
      obtain ⟨a, h1, h2⟩ := E k y (by omega) u
      obtain ⟨j, _⟩ := m7 (YF := YF) h (f7 h.d.2.1 (k : Int)) ds.length (Nat.le_refl _)
      rw [List.take_length, List.take_of_length_le (by rw [fE]; omega), Nat.sub_self] at j
      have e : kt ds (dX ds (k : Int)) = some (dX ds ((k : Int) + 1)) := by
        rw [jD h.d.2.1, Int.emod_eq_of_lt (by omega) (by omega), if_pos (by omega)]
      obtain ⟨i, U, q⟩ := j _ e
      have F : (k : Int) + 1 = ((k + 1 : Nat) : Int) := by omega
      have T := eV (f := fun s : List Int × Int × g => Zk_L1 g YF ds ss s.1 s.2.1 s.2.2) (s := (dX ds (k : Int), b + zs (· * ·) (dX ds (k : Int)) ss, y)) (s' := (dX ds ((k + 1 : Nat) : Int), b + zs (· * ·) (dX ds ((k + 1 : Nat) : Int)) ss, a)) (by
        simp only [Zk_L1, h1, Option.bind_some, Bool.not_true, Bool.false_eq_true, if_false]
        rw [aX (by omega) (by omega)]
        simp only [fC, List.replicate_zero, List.append_nil] at q
        rw [q, F]
        simp only [Option.bind_some, Zk_J2]
        rw [if_neg (by simp; omega)])
      rw [T]
      exact ih (k + 1) a (by omega) h2
  obtain ⟨a, h1, h2⟩ := D ((pr ds).toNat - 1) 0 y (by omega) L
  refine ⟨a, ?_, h2⟩
  have e : dX ds ((0 : Nat) : Int) = fC ds.length := kZ h.d.2.1 (by simp)
  have J : ∀ (n : Nat) (ss : List Int), zs (· * ·) (fC n) ss = 0 := by
    intro n
    induction n with
    | zero => intro ss; simp [fC, zs]
    | succ n ihn => intro ss; cases ss with
      | nil => simp [fC, zs]
      | cons s ss => have := ihn ss; simp only [fC, List.replicate_succ, zs] at this ⊢; rw [this]; simp
  rw [e, J] at h1
  have G : (ds.length : Int).toNat = ds.length := by omega
  rw [G]
  simp only [Int.add_zero] at h1
  rw [show List.replicate ds.length (0 : Int) = fC ds.length from rfl, h1]
  rfl
theorem pH (f : Int → Int → Int) {a b c e : List Int} (h : a.length = b.length) : zs f (a ++ c) (b ++ e) = zs f a b + zs f c e := by
  induction a generalizing b with
  | nil => cases b with
    | nil => simp [zs]
    | cons => simp at h
  | cons x a ih => cases b with
    | nil => simp at h
    | cons y b => simp only [List.cons_append, zs, ih (b := b) (by simpa using h)]; omega
theorem hw0 (d : Int) : hw d 0 = 0 := by simp [hw]
theorem u5 {d s : Int} (b : 1 ≤ d) (a : 0 ≤ s) : lw d s = 0 := by
  have := Int.mul_nonneg a (show 0 ≤ d - 1 by omega)
  unfold lw; split <;> omega
theorem kb {d s : Int} (b : 1 ≤ d) (a : 0 ≤ s) : hw d s = s * (d - 1) := by
  have := Int.mul_nonneg a (show 0 ≤ d - 1 by omega)
  unfold hw; split <;> omega
theorem u6 {ds ss : List Int} (b : ∀ d ∈ ds, 1 ≤ d) (e : ∀ s ∈ ss, 0 ≤ s) : zs lw ds ss = 0 := by
  induction ds generalizing ss with
  | nil => simp [zs]
  | cons d ds ih => cases ss with
    | nil => simp [zs]
    | cons s ss =>
      simp only [zs, u5 (b d (by simp)) (e s (by simp)), ih (ss := ss) (fun x a => b x (by simp [a])) (fun x a => e x (by simp [a]))]
      omega
theorem pI {ds : List Int} (h : eL ds) : VG (whole ds).Dims (whole ds).Strides (whole ds).Offset (whole ds).Base := pG h
theorem pJ {v : View} (a : v.Dims.length < cP) (h : ¬ eL v.Dims) : Zc v = some false := by
  unfold Zc
  rw [gT a]
  simp [h]
theorem pK {v : View} (a : v.Dims.length < cP) (h : ¬ eL v.Dims) : Zo v = some false := by
  unfold Zo
  rw [f' a]
  simp [h]
theorem fJ {xs : List Int} {j : Nat} {a : Int} (h : j < xs.length) : ix (xs.set j a) (j : Int) = a := by rw [cB (by simpa using h)]; simp
theorem l9 (f : Int → Int → Int) {xs ys : List Int} {j : Nat} {a b : Int} (e : j < xs.length) (g : j < ys.length) : zs f (xs.set j a) (ys.set j b) = zs f xs ys - f (ix xs (j : Int)) (ix ys (j : Int)) + f a b := by
  induction xs generalizing ys j with
  | nil => simp at e
  | cons x xs ih => cases ys with
    | nil => simp at g
    | cons y ys => cases j with
      | zero => simp [zs, ix]; omega
      | succ j =>
        rw [eK, eK, List.set_cons_succ, List.set_cons_succ]
        simp only [zs, ih (ys := ys) (j := j) (by simpa using e) (by simpa using g)]
        omega
theorem f8 {xs : List Int} {j : Nat} {a : Int} {P : Int → Prop} (h : ∀ x ∈ xs, P x) (e : P a) : ∀ x ∈ xs.set j a, P x := by
  intro x b
  rcases List.mem_or_eq_of_mem_set b with b | rfl
  · exact h x b
  · exact e
theorem sH {v : View} {j : Nat} (e : j < v.Dims.length) (b : j < v.Strides.length) (a s : Int) : Z0j v (j : Int) a s = some ⟨v.Dims.set j a, v.Strides.set j (if a = 1 then 0 else s), v.Offset, v.Base⟩ := by
  unfold Z0j
  by_cases g : a = 1
  · rw [if_pos (by simp [g])]
    simp only [Z0j_J3]
    rw [if_pos (by omega), if_pos (by omega), if_pos g, Int.toNat_natCast]
  · rw [if_neg (by simp [g])]
    simp only [Z0j_J3]
    rw [if_pos (by omega), if_pos (by omega), if_neg g, Int.toNat_natCast]
def fD (ds : List Int) (a sz st : Int) : Int := (ix ds a - sz) / st + 1
def gU (ds : List Int) (a sz st : Int) : Prop := 0 ≤ a ∧ a < (ds.length : Int) ∧ 1 ≤ sz ∧ 1 ≤ st ∧ sz ≤ ix ds a
instance (ds : List Int) (a sz st : Int) : Decidable (gU ds a sz st) := by unfold gU; infer_instance
theorem ws {xs ys : List Int} (a : ∀ d ∈ xs, 1 ≤ d) (b : ∀ y ∈ ys, 0 ≤ y) : 0 ≤ zs hw xs ys := by
  induction xs generalizing ys with
  | nil => simp [zs]
  | cons d ds ih => cases ys with
    | nil => simp [zs]
    | cons s ss =>
      have := ih (ys := ss) (fun x h => a x (by simp [h])) (fun x h => b x (by simp [h]))
      have e := kb (a d (by simp)) (b s (by simp))
      have g := Int.mul_nonneg (b s (by simp)) (show 0 ≤ d - 1 by have := a d (by simp); omega)
      simp only [zs]; omega
theorem jE {ds : List Int} {a sz st : Int} (h : gU ds a sz st) : 1 ≤ fD ds a sz st ∧ fD ds a sz st ≤ ix ds a ∧ (fD ds a sz st - 1) * st ≤ ix ds a - sz := by
  obtain ⟨h1, h2, g, i, j⟩ := h
  unfold fD
  have b : 0 ≤ (ix ds a - sz) / st := Int.ediv_nonneg (by omega) (by omega)
  have e : (ix ds a - sz) / st ≤ ix ds a - sz := Int.ediv_le_self _ (by omega)
  have a3 := Int.ediv_mul_le (ix ds a - sz) (show st ≠ 0 by omega)
  refine ⟨by omega, by omega, ?_⟩
  rw [show (ix ds a - sz) / st + 1 - 1 = (ix ds a - sz) / st by omega]
  exact a3
theorem wt {v : View} (i : v.Dims.length ≤ 6) (h : v.Strides.length = v.Dims.length) (a s : Int) : Z1d v a s = some ⟨v.Dims ++ [a], v.Strides ++ [if a = 1 then 0 else s], v.Offset, v.Base⟩ := by
  unfold Z1d
  rw [if_pos (by simp; omega), if_pos (by simp; omega)]
  have e : aG (((v.Dims ++ [(0 : Int)]).length : Int) - 1) = (v.Dims.length : Int) := by
    have : ((v.Dims ++ [(0 : Int)]).length : Int) = v.Dims.length + 1 := by simp
    rw [this, aX (by omega) (by omega)]; omega
  rw [e, sH (by simp) (by simp; omega)]
  simp only [Option.bind_some]
  have b : (v.Dims ++ [0]).set v.Dims.length a = v.Dims ++ [a] := by rw [List.set_append_right _ _ (Nat.le_refl _)]; simp
  have g : ∀ x : Int, (v.Strides ++ [0]).set v.Dims.length x = v.Strides ++ [x] := by intro x; rw [← h, List.set_append_right _ _ (Nat.le_refl _)]; simp
  rw [b, g]
def NR (x : Int) : Prop := 0 ≤ x ∧ x < 2147483647
instance (x : Int) : Decidable (NR x) := by unfold NR; infer_instance
def RG (n : Nat) (x : List Int) : Prop := x.length = n ∧ ∀ y ∈ x, NR y
theorem RG.set {n : Nat} {x : List Int} (h : RG n x) {y : Int} (a : NR y) (k : Nat) : RG n (x.set k y) := ⟨by simp [h.1], f8 h.2 a⟩
theorem RG.rep (n : Nat) : RG n (List.replicate n 0) := ⟨by simp, fun y a => by rw [(List.mem_replicate.1 a).2]; decide⟩
theorem RG.ix {n : Nat} {x : List Int} (h : RG n x) {i : Int} (a : 0 ≤ i) (h1 : i < (n : Int)) : NR (ix x i) := by
  obtain ⟨k, rfl⟩ := Int.eq_ofNat_of_zero_le a
  exact h.2 _ (bJ (by have := h.1; omega))
theorem nz {R : Type} {f : List Int × Int → Option ((List Int × Int) ⊕ R)} {Post : R → Prop} (m n : Nat) (q : ∀ j : Nat, j < n → ∀ x, RG m x → ∃ x', f (x, (j : Int)) = some (.inl (x', ((j + 1 : Nat) : Int))) ∧ RG m x') (g : ∀ x, RG m x → ∃ r, f (x, (n : Int)) = some (.inr r) ∧ Post r) {x : List Int} (e : RG m x) : ∃ r, bC f (x, 0) = some r ∧ Post r :=
  ka (f := f) (fun j s => s.2 = (j : Int) ∧ RG m s.1) n (fun j s h a => by
    obtain ⟨x, i⟩ := s
    obtain ⟨rfl, b⟩ := a
    obtain ⟨x', h1, h2⟩ := q j h x b
    exact ⟨_, h1, rfl, h2⟩) (fun s a => by
    obtain ⟨x, i⟩ := s
    obtain ⟨rfl, b⟩ := a
    exact g x b) (s := (x, 0)) ⟨rfl, e⟩
theorem i9 (p : Int) : ∃ m, Zi p = some m ∧ NR m := by
  have h1 := Int.tmod_lt_of_pos p (show (0 : Int) < 2147483647 by omega)
  have h2 : -2147483647 < p.tmod 2147483647 := by
    rcases Int.le_total 0 p with h | h
    · have := Int.tmod_nonneg 2147483647 h; omega
    · have e : p.tmod 2147483647 = -((-p).tmod 2147483647) := by rw [Int.neg_tmod]; omega
      have := Int.tmod_lt_of_pos (-p) (show (0 : Int) < 2147483647 by omega)
      omega
  unfold Zi
  by_cases c : p.tmod 2147483647 < 0
  · rw [if_pos (by simpa using c)]
    exact ⟨_, rfl, by rw [aX (by omega) (by omega)]; constructor <;> omega⟩
  · rw [if_neg (by simpa using c)]
    exact ⟨_, rfl, by constructor <;> omega⟩
theorem pL (a b : Int) : ∃ m, Z17 a b = some m ∧ NR m := by
  obtain ⟨x, h1, _⟩ := i9 a
  obtain ⟨y, h2, _⟩ := i9 b
  obtain ⟨z, e, g⟩ := i9 (aG (x + y))
  exact ⟨z, by unfold Z17; simp [h1, h2, e], g⟩
theorem iM (a b : Int) : ∃ m, Z0l a b = some m ∧ NR m := by
  obtain ⟨x, h1, _⟩ := i9 a
  obtain ⟨y, h2, _⟩ := i9 b
  obtain ⟨z, e, g⟩ := i9 (aG (x * y))
  exact ⟨z, by unfold Z0l; simp [h1, h2, e], g⟩
theorem la {ds : List Int} {x : List Int} (h : eL ds) (a : RG (pr ds).toNat x) : TOk ds x := ⟨h, by have := a.1; have := h.2.pos; omega, fun y b => a.2 y b⟩
theorem sI {ds : List Int} {x : List Int} (h : TOk ds x) : RG (pr ds).toNat x := ⟨by have := h.l; omega, fun y a => h.x y a⟩
theorem pM {ds x : List Int} (h : TOk ds x) : x.length ≤ 4096 ∧ ds.length ≤ 6 := ⟨by have := h.l; have := h.d.2.2; omega, h.d.1⟩
def TT (t : Tensor) : Prop := TOk t.Dims t.Data
theorem m8 {t : Tensor} (h : TT t) : Zm t = some true := by
  have := pM h
  rw [kV (by unfold cP; omega) (by unfold cP; omega), decide_eq_true (show TOk t.Dims t.Data from h)]
theorem rC (ds ss : List Int) (a : Int) : (mN ds ss a).length = (pr ds).toNat := by simp [mN]
theorem u7 {t : Tensor} {v : View} (g : TT t) (a : VG v.Dims v.Strides v.Offset v.Base) (M : v.Base = pr t.Dims) : ∃ d, Zx t v = some ⟨v.Dims, d⟩ ∧ TOk v.Dims d := by
  have U := pM g
  have hn := a.d.1
  have hp := a.d.2.2
  have J := g.l
  unfold Zx
  rw [m8 g, mO a]
  simp only [Option.bind_some, cT, Bool.not_true, Bool.not_false, cond_true]
  rw [if_neg (by simp; omega), io (by omega), sG a.d a.l a.s (by have := a.o; have := a.b; omega)]
  simp only [Option.bind_some]
  have E := rC v.Dims v.Strides v.Offset
  obtain ⟨r, F, G⟩ := ka (f := fun s : List Int × Int => Zx_L1 t (mN v.Dims v.Strides v.Offset) s.1 s.2) (fun j s => s.2 = (j : Int) ∧ RG j s.1) (pr v.Dims).toNat (Post := fun r => RG (pr v.Dims).toNat r)
    (fun j s T q => by
      obtain ⟨x, i⟩ := s
      obtain ⟨e, m⟩ := q
      simp only at e
      subst e
      have L : 0 ≤ ix (mN v.Dims v.Strides v.Offset) (j : Int) ∧ ix (mN v.Dims v.Strides v.Offset) (j : Int) < v.Base := by
        have := bJ (xs := mN v.Dims v.Strides v.Offset) (k := j) (by omega)
        obtain ⟨k, _, I⟩ := List.mem_map.1 this
        rw [← I]
        exact a.place (f7 a.d.2.1 (k : Int))
      have u := (sI g).ix L.1 (by have := (sI g).1; omega)
      have D : x.length = j := m.1
      simp only [Zx_L1]
      rw [if_pos (by simp; omega), if_pos (by omega), if_pos (by omega), if_pos (by simp; omega), cR (by unfold cP; omega)]
      refine ⟨_, rfl, rfl, by simp [D], ?_⟩
      intro y h
      rcases List.mem_append.1 h with h | h
      · exact m.2 y h
      · rw [List.mem_singleton.1 h]; exact u)
    (fun s q => by
      obtain ⟨x, i⟩ := s
      obtain ⟨e, m⟩ := q
      simp only at e
      subst e
      simp only [Zx_L1]
      rw [if_neg (by simp; omega)]
      exact ⟨x, rfl, m⟩) (s := ([], 0)) ⟨rfl, rfl, by simp⟩
  rw [F]
  exact ⟨r, rfl, la a.d G⟩
theorem nA {t : Tensor} (a : TT t) : Zx t eX = some ⟨[], []⟩ := by
  unfold Zx
  rw [m8 a]
  simp only [Option.bind_some, cT, Bool.not_true, Bool.not_false, cond_true]
  rw [show Zc eX = some false from nv]
  simp
theorem pO {ds is : List Int} {j : Nat} {m x : Int} (a : j < ds.length) (h : IV (ds.set j m) is) (b : 0 ≤ x) (h1 : x < ix ds (j : Int)) : IV ds (is.set j x) := by
  induction ds generalizing is j with
  | nil => simp at a
  | cons d ds ih => cases j with
    | zero => cases is with
      | nil => exact h.elim
      | cons i is => exact ⟨⟨b, h1⟩, h.2⟩
    | succ j => cases is with
      | nil => exact h.elim
      | cons i is => rw [eK] at h1; exact ⟨h.1, ih (by simpa using a) h.2 h1⟩
theorem rD {ds is : List Int} {j : Nat} {m x : Int} (a : j < ds.length) (h : IV ds is) (b : 0 ≤ x) (h1 : x < m) : IV (ds.set j m) (is.set j x) := by
  induction ds generalizing is j with
  | nil => simp at a
  | cons d ds ih => cases j with
    | zero => cases is with
      | nil => exact h.elim
      | cons i is => exact ⟨⟨b, h1⟩, h.2⟩
    | succ j => cases is with
      | nil => exact h.elim
      | cons i is => exact ⟨h.1, ih (by simpa using a) h.2⟩
theorem rE {ds is : List Int} (h : IV ds is) (k : Nat) : IV (ds.take k) (is.take k) := by
  induction ds generalizing is k with
  | nil => cases is with
    | nil => simp [IV]
    | cons => exact h.elim
  | cons d ds ih => cases is with
    | nil => exact h.elim
    | cons i is => cases k with
      | zero => simp [IV]
      | succ k => exact ⟨h.1, ih h.2 k⟩
def fb (ds : List Int) (a b f g : Int) : Int := b + ix ds a + (ix ds a - 1) * g + f
def hZ (ds : List Int) (a b f g : Int) : Prop := 0 ≤ a ∧ a < (ds.length : Int) ∧ 0 ≤ b ∧ b ≤ 4096 ∧ 0 ≤ f ∧ f ≤ 4096 ∧ 0 ≤ g ∧ g ≤ 4096 ∧ eL (ds.set a.toNat (fb ds a b f g))
instance (ds : List Int) (a b f g : Int) : Decidable (hZ ds a b f g) := by unfold hZ; infer_instance
theorem rF {t : Tensor} (h : TT t) (a : Int) : Z1b t a = some (decide (0 ≤ a ∧ a < (t.Dims.length : Int))) := by
  unfold Z1b
  rw [m8 h]
  simp only [Option.bind_some, Bool.true_and]
  congr 1
  rw [Bool.eq_iff_iff]
  simp
theorem pP {xs : List Int} (h : xs.length ≤ 6) {j : Nat} (a : j < xs.length) (x : Int) : Z18 xs (j : Int) x = some (xs.set j x) := by
  unfold Z18
  rw [io (by omega)]
  simp only [Option.bind_some]
  rw [if_pos (by omega), Int.toNat_natCast]
theorem sJ {t : Tensor} (h : TT t) {a b f g : Int} :
    (hZ t.Dims a b f g → ∃ d, Zt t a b f g = some ⟨t.Dims.set a.toNat (fb t.Dims a b f g), d⟩ ∧ TOk (t.Dims.set a.toNat (fb t.Dims a b f g)) d) ∧ (¬ hZ t.Dims a b f g → Zt t a b f g = some ⟨[], []⟩) := by
  have hl := pM h
  unfold Zt
  rw [rF h]
  simp only [Option.bind_some]
  by_cases c : (0 ≤ a ∧ a < (t.Dims.length : Int)) ∧ 0 ≤ b ∧ b ≤ 4096 ∧ 0 ≤ f ∧ f ≤ 4096 ∧ 0 ≤ g ∧ g ≤ 4096
  · obtain ⟨g1, c1, J, L, M, i, G⟩ := c
    obtain ⟨j, rfl⟩ := Int.eq_ofNat_of_zero_le g1.1
    have F : j < t.Dims.length := by omega
    have hm := h.d.2.mem (bJ F)
    have k0 : 0 ≤ (ix t.Dims (j : Int) - 1) * g := Int.mul_nonneg (by omega) i
    have k1 := Int.mul_le_mul (show ix t.Dims (j : Int) - 1 ≤ 4096 by omega) G i (show (0 : Int) ≤ 4096 by omega)
    have e : aG (aG (aG (b + ix t.Dims (j : Int)) + aG (aG (ix t.Dims (j : Int) - 1) * g)) + f) = fb t.Dims (j : Int) b f g := by
      rw [aX (n := b + ix t.Dims (j : Int)) (by omega) (by omega), aX (n := ix t.Dims (j : Int) - 1) (by omega) (by omega), aX (n := (ix t.Dims (j : Int) - 1) * g) (by omega) (by omega), aX (n := b + ix t.Dims (j : Int) + (ix t.Dims (j : Int) - 1) * g) (by omega) (by omega), aX (by omega) (by omega)]
      rfl
    rw [if_neg (by simp; omega), if_pos g1, e, pP hl.2 F]
    simp only [Option.bind_some, Int.toNat_natCast]
    rw [gT (by simp [cP]; omega)]
    by_cases g5 : eL (t.Dims.set j (fb t.Dims (j : Int) b f g))
    · simp only [decide_eq_true g5, Option.bind_some, Bool.not_true, Bool.false_eq_true, if_false]
      refine ⟨fun _ => ?_, fun q => absurd ⟨g1.1, g1.2, c1, J, L, M, i, G, by simpa using g5⟩ q⟩
      rw [pA g5]
      simp only [Option.bind_some]
      have hp := h.d.2.2
      obtain ⟨r, T, U⟩ := nz (f := fun s : List Int × Int => Zt_L1 t (j : Int) b g ⟨t.Dims.set j (fb t.Dims (j : Int) b f g), List.replicate (pr (t.Dims.set j (fb t.Dims (j : Int) b f g))).toNat 0⟩ s.1 s.2) (Post := fun r => RG (pr (t.Dims.set j (fb t.Dims (j : Int) b f g))).toNat r) (pr (t.Dims.set j (fb t.Dims (j : Int) b f g))).toNat t.Data.length
        (fun k hk x D => by
          have I := f7 h.d.2.1 (k : Int)
          have a0 := fE t.Dims (k : Int)
          have E := I.mem (j := j) (by omega)
          have z0 : 0 ≤ ix (dX t.Dims (k : Int)) (j : Int) * g := Int.mul_nonneg E.1 i
          have z1 : ix (dX t.Dims (k : Int)) (j : Int) * g ≤ (ix t.Dims (j : Int) - 1) * g := Int.mul_le_mul_of_nonneg_right (by omega) i
          have ee : aG (b + aG (ix (dX t.Dims (k : Int)) (j : Int) * aG (g + 1))) = b + (ix (dX t.Dims (k : Int)) (j : Int) * g + ix (dX t.Dims (k : Int)) (j : Int)) := by
            rw [aX (n := g + 1) (by omega) (by omega), Int.mul_add, Int.mul_one, aX (n := ix (dX t.Dims (k : Int)) (j : Int) * g + ix (dX t.Dims (k : Int)) (j : Int)) (by omega) (by omega), aX (by omega) (by omega)]
          have u := rD (m := fb t.Dims (j : Int) b f g) (x := b + (ix (dX t.Dims (k : Int)) (j : Int) * g + ix (dX t.Dims (k : Int)) (j : Int))) F I (by omega) (by unfold fb; omega)
          have tk : TT ⟨t.Dims.set j (fb t.Dims (j : Int) b f g), x⟩ := la g5 D
          simp only [Zt_L1]
          rw [if_pos (by simp; omega), jA h.d (by omega) (by omega)]
          simp only [Option.bind_some]
          rw [if_pos (by omega), ee, pP (by omega) (by omega)]
          simp only [Option.bind_some]
          rw [if_pos (by omega), wr (t := ⟨t.Dims.set j (fb t.Dims (j : Int) b f g), x⟩) g5 tk.l u, cR (by unfold cP; omega)]
          exact ⟨_, rfl, D.set (h.x _ (bJ hk)) _⟩)
        (fun x D => by simp only [Zt_L1]; rw [if_neg (by simp)]; exact ⟨x, rfl, D⟩) (RG.rep _)
      rw [T]
      exact ⟨r, rfl, la g5 U⟩
    · simp only [decide_eq_false g5, Option.bind_some, Bool.not_false, if_true]
      exact ⟨fun q => absurd (by simpa using q.2.2.2.2.2.2.2.2) g5, fun _ => by trivial⟩
  · rw [if_pos (by simp only [Bool.or_eq_true, Bool.not_eq_true', decide_eq_true_eq, decide_eq_false_iff_not]; omega)]
    exact ⟨fun q => absurd ⟨⟨q.1, q.2.1⟩, q.2.2.1, q.2.2.2.1, q.2.2.2.2.1, q.2.2.2.2.2.1, q.2.2.2.2.2.2.1, q.2.2.2.2.2.2.2.1⟩ c, fun _ => by trivial⟩
theorem lc {α : Type} (xs : List α) (k : Nat) : sub xs 0 (k : Int) = xs.take k := by simp [sub]
theorem nB {α R : Type} {f : List α × Int → Option ((List α × Int) ⊕ R)} (n w a : Nat) {Post : R → Prop} (x : List α) (q : ∀ j : Nat, j < n → ∀ y, y.length + w ≤ a → ∃ g, f (y, (j : Int)) = some (.inl (g, ((j + 1 : Nat) : Int))) ∧ g.length ≤ y.length + w)
    (m : ∀ y, y.length ≤ x.length + n * w → ∃ r, f (y, (n : Int)) = some (.inr r) ∧ Post r) (D : x.length + n * w ≤ a) : ∃ r, bC f (x, 0) = some r ∧ Post r :=
  ka (f := f) (fun j s => s.2 = (j : Int) ∧ s.1.length ≤ x.length + j * w) n (fun j s h b => by
    obtain ⟨y, i⟩ := s
    obtain ⟨rfl, e⟩ := b
    have h1 : (j + 1) * w ≤ n * w := Nat.mul_le_mul_right w h
    rw [Nat.succ_mul] at h1
    simp only at e
    obtain ⟨g, g1, u⟩ := q j h y (by omega)
    exact ⟨_, g1, rfl, by rw [Nat.succ_mul]; simp only; omega⟩) (fun s b => by
    obtain ⟨y, i⟩ := s
    obtain ⟨rfl, e⟩ := b
    exact m y e) (s := (x, 0)) ⟨rfl, by simp⟩
theorem pQ {xs : List Int} (h : xs.length ≤ 6) {j : Nat} (a : j < xs.length) (x : Int) : Z1h xs (j : Int) x = some (xs.set j x) := by
  unfold Z1h
  rw [gu (by omega)]
  simp only [Option.bind_some]
  rw [if_pos (by omega), Int.toNat_natCast]
theorem nC {ds : List Int} (h : eL ds) {j : Nat} (a : j < ds.length) : Z1e ds (j : Int) = some (pr (ds.take j), ix ds (j : Int), pr (ds.drop (j + 1))) := by
  have b := h.1
  unfold Z1e
  rw [if_pos (by omega), lc, im (by simp [cP]; omega) (h.2.take j)]
  simp only [Option.bind_some]
  rw [if_pos (by omega), cR (by unfold cP; omega), if_pos (by omega), iL, Int.toNat_natCast, im (by simp [cP]; omega) (h.2.drop (j + 1))]
  rfl
theorem rG {ds : List Int} (h : eL ds) {j : Nat} (L : j < ds.length) (n : Int) {l : List pair} (M : l.length ≤ 4096) : ∃ ps, Z5 ds (j : Int) n l = some ps := by
  have hn := h.1
  unfold Z5
  rw [nC h L]
  simp only [Option.bind_some]
  obtain ⟨a, I⟩ : ∃ a : Nat, (a : Int) = pr (ds.take j) := ⟨(pr (ds.take j)).toNat, by have := (h.2.take j).pos; omega⟩
  obtain ⟨b, J⟩ : ∃ b : Nat, (b : Int) = pr (ds.drop (j + 1)) := ⟨(pr (ds.drop (j + 1))).toNat, by have := (h.2.drop (j + 1)).pos; omega⟩
  have m := (h.2.take j).2
  have u := (h.2.drop (j + 1)).2
  have a0 := (h.2.take j).pos
  have E := (h.2.drop (j + 1)).pos
  rw [← I] at m a0 ⊢
  rw [← J] at u E ⊢
  have k1 : (a : Int) * b ≤ 4096 * 4096 := Int.mul_le_mul m u (by omega) (by omega)
  have U : 0 ≤ (a : Int) * b := Int.mul_nonneg (by omega) (by omega)
  have k3 : (a : Int) * b * l.length ≤ 4096 * 4096 * 4096 := Int.mul_le_mul k1 (by omega) (by omega) (by omega)
  have k4 : 0 ≤ (a : Int) * b * l.length := Int.mul_nonneg U (by omega)
  have lb : l.length * b ≤ 4096 * 4096 := Nat.mul_le_mul M (by omega)
  have D : a * (l.length * b) ≤ 4096 * (4096 * 4096) := Nat.mul_le_mul (by omega) lb
  rw [aX (n := (a : Int) * b) (by omega) (by omega), aX (by omega) (by omega), if_pos (by omega)]
  obtain ⟨r, e, _⟩ := nB (f := fun s : List pair × Int => Z5_L1 n l ((a : Int), ix ds (j : Int), (b : Int)) s.1 s.2) a (l.length * b) 8796093022208 (Post := fun _ => True) []
    (fun i hi y T => by
      simp only [Z5_L1, Z5_J6]
      rw [if_pos (by simp; omega), cR (by unfold cP; omega)]
      obtain ⟨r2, F, p2⟩ := nB (f := fun s : List pair × Int => Z5_L2 n l ((a : Int), ix ds (j : Int), (b : Int)) (i : Int) s.1 s.2) l.length b 8796093022208 (Post := fun r => r.length ≤ y.length + l.length * b) y
        (fun k hk z hz => by
          simp only [Z5_L2, Z5_J5]
          rw [if_pos (by simp; omega), if_pos (by omega), cR (by unfold cP; omega)]
          obtain ⟨r3, G, p3⟩ := nB (f := fun s : List pair × Int => Z5_L3 n l ((a : Int), ix ds (j : Int), (b : Int)) (i : Int) (k : Int) s.1 s.2) b 1 8796093022208 (Post := fun r => r.length ≤ z.length + b * 1) z
            (fun q hq v g => by
              simp only [Z5_L3]
              rw [if_pos (by simp; omega), if_pos (by simp; omega), cR (by unfold cP; omega)]
              exact ⟨_, rfl, by simp⟩)
            (fun v g => by simp only [Z5_L3]; rw [if_neg (by simp)]; exact ⟨v, rfl, g⟩) (by omega)
          rw [G]
          exact ⟨_, rfl, by omega⟩)
        (fun v g => by simp only [Z5_L2]; rw [if_neg (by simp)]; exact ⟨v, rfl, g⟩) T
      rw [F]
      exact ⟨_, rfl, p2⟩)
    (fun v g => by simp only [Z5_L1]; rw [if_neg (by simp)]; exact ⟨v, rfl, trivial⟩) (by simp; omega)
  rw [e]
  exact ⟨r, rfl⟩
theorem og {xs : List Int} {p : Int → Prop} (i : ∀ x, Decidable (p x)) (h : ¬ ∀ x ∈ xs, p x) : ∃ m, m < xs.length ∧ ¬ p (ix xs (m : Int)) ∧ ∀ k : Nat, k < m → p (ix xs (k : Int)) := by
  induction xs with
  | nil => exact absurd (fun x g => by cases g) h
  | cons x xs ih =>
    by_cases c : p x
    · obtain ⟨m, h1, h2, b⟩ := ih fun q => h fun y a => by
        rcases List.mem_cons.1 a with rfl | a
        · exact c
        · exact q y a
      refine ⟨m + 1, by simpa using h1, by rw [eK]; exact h2, ?_⟩
      intro k e
      cases k with
      | zero => exact c
      | succ k => rw [eK]; exact b k (by omega)
    · exact ⟨0, by simp, c, fun k e => by omega⟩
def Sh (o : Option (List Int × List pair × Bool)) (c : Prop) [Decidable c] (d : List Int) : Prop := ∃ ds ps, o = some (ds, ps, decide c) ∧ (c → ds = d)
theorem wu {ds : List Int} (h : eL ds) {a b f g : Int} : Sh (Za ds a b f g) (hZ ds a b f g) (ds.set a.toNat (fb ds a b f g)) := by
  have hn := h.1
  unfold Za
  simp only [Z0s, Option.bind_some]
  by_cases g1 : 0 ≤ a ∧ a < (ds.length : Int)
  · obtain ⟨j, rfl⟩ := Int.eq_ofNat_of_zero_le g1.1
    have D : j < ds.length := by omega
    have hm := h.2.mem (bJ D)
    rw [if_neg (by simp; omega)]
    have lp := eP [b, f, g] (fun s : Int => Za_L1 b f g s) (fun i => i) (fun x => !(decide (x < 0) || decide (x > 4096))) (.inl (([] : List Int), ([] : List pair), false)) (.inr ())
      (fun k U => by
        simp only [List.length_cons, List.length_nil] at U
        simp only [Za_L1]
        rw [if_pos (by simp; omega), if_pos (by simp; omega), cR (by unfold cP; omega)]
        cases (decide (ix [b, f, g] (k : Int) < 0) || decide (ix [b, f, g] (k : Int) > 4096)) <;> rfl)
      (by simp only [Za_L1]; rw [if_neg (by simp)])
    rw [lp]
    by_cases c : 0 ≤ b ∧ b ≤ 4096 ∧ 0 ≤ f ∧ f ≤ 4096 ∧ 0 ≤ g ∧ g ≤ 4096
    · obtain ⟨c1, J, L, M, m, F⟩ := c
      have u : ([b, f, g].all fun x => !(decide (x < 0) || decide (x > 4096))) = true := by
        rw [List.all_eq_true]
        intro x hx
        have : x = b ∨ x = f ∨ x = g := by simpa using hx
        simp; rcases this with rfl | rfl | rfl <;> omega
      rw [u]
      simp only [if_true, Option.bind_some, Za_J1]
      have k0 : 0 ≤ (ix ds (j : Int) - 1) * g := Int.mul_nonneg (by omega) m
      have k1 := Int.mul_le_mul (show ix ds (j : Int) - 1 ≤ 4096 by omega) F m (show (0 : Int) ≤ 4096 by omega)
      have e : aG (aG (aG (b + ix ds (j : Int)) + aG (aG (ix ds (j : Int) - 1) * g)) + f) = fb ds (j : Int) b f g := by
        rw [aX (n := b + ix ds (j : Int)) (by omega) (by omega), aX (n := ix ds (j : Int) - 1) (by omega) (by omega), aX (n := (ix ds (j : Int) - 1) * g) (by omega) (by omega), aX (n := b + ix ds (j : Int) + (ix ds (j : Int) - 1) * g) (by omega) (by omega), aX (by omega) (by omega)]
        rfl
      rw [if_pos g1, e, pQ hn D]
      simp only [Option.bind_some]
      rw [f' (by simp [cP]; omega)]
      by_cases g6 : eL (ds.set j (fb ds (j : Int) b f g))
      · have ok : hZ ds (j : Int) b f g := ⟨g1.1, g1.2, c1, J, L, M, m, F, by simpa using g6⟩
        simp only [decide_eq_true g6, Option.bind_some, Bool.not_true, Bool.false_eq_true, if_false]
        obtain ⟨l, T, hl⟩ := nB (f := fun s : List pair × Int => Za_L2 ds (j : Int) b g s.1 s.2) (ix ds (j : Int)).toNat 1 8796093022208 (Post := fun r => r.length ≤ 4096) []
          (fun q hq v G => by
            simp only [Za_L2]
            rw [if_pos (by simp; omega), if_pos (by simp; omega), cR (by unfold cP; omega)]
            exact ⟨_, rfl, by simp⟩)
          (fun v G => by
            simp only [Za_L2]
            simp at G
            rw [if_neg (by simp; omega)]
            exact ⟨v, rfl, by omega⟩) (by simp; omega)
        rw [T]
        simp only [Option.bind_some, Za_J2]
        obtain ⟨ps, E⟩ := rG h D (fb ds (j : Int) b f g) hl
        rw [e, E]
        exact ⟨_, ps, by rw [decide_eq_true ok]; rfl, fun _ => by simp⟩
      · have no : ¬ hZ ds (j : Int) b f g := fun q => g6 (by simpa using q.2.2.2.2.2.2.2.2)
        simp only [decide_eq_false g6, Option.bind_some, Bool.not_false, if_true]
        exact ⟨_, _, by rw [decide_eq_false no], fun q => absurd q no⟩
    · have no : ¬ hZ ds (j : Int) b f g := fun q => c ⟨q.2.2.1, q.2.2.2.1, q.2.2.2.2.1, q.2.2.2.2.2.1, q.2.2.2.2.2.2.1, q.2.2.2.2.2.2.2.1⟩
      have u : ([b, f, g].all fun x => !(decide (x < 0) || decide (x > 4096))) = false := by
        simp only [List.all_cons, List.all_nil, Bool.and_true, Bool.and_eq_false_iff, Bool.not_eq_false', Bool.or_eq_true, decide_eq_true_eq]
        omega
      rw [u]
      exact ⟨_, _, by rw [decide_eq_false no]; rfl, fun q => absurd q no⟩
  · have no : ¬ hZ ds a b f g := fun q => g1 ⟨q.1, q.2.1⟩
    have I : (decide (a ≥ 0) && decide (a < (ds.length : Int))) = false := by simp; omega
    rw [I, if_pos (by simp)]
    exact ⟨_, _, by rw [decide_eq_false no], fun q => absurd q no⟩
def LT (s : aO) : Prop := s.length ≤ 6 ∧ ∀ c ∈ s, 97 ≤ c.toNat ∧ c.toNat ≤ 122
instance (s : aO) : Decidable (LT s) := by unfold LT; infer_instance
theorem kA {s : aO} (b : s.length < cP) : Z08 s = some (decide (LT s)) := by
  unfold Z08
  have := eP s (fun i : Int => Z08_L1 s i) (fun i => i) (fun c => decide (97 ≤ c.toNat ∧ c.toNat ≤ 122)) (.inl false) (.inr ())
    (fun k g => by
      have a : bt s (k : Int) = ((ix s (k : Int)).toNat : Int) := rfl
      simp only [Z08_L1]
      rw [if_pos (by simp; omega), if_pos (by omega), cR (by omega)]
      by_cases q : 97 ≤ (ix s (k : Int)).toNat ∧ (ix s (k : Int)).toNat ≤ 122
      · rw [if_neg (by simp only [Bool.or_eq_true, decide_eq_true_eq, a]; omega), decide_eq_true q, if_pos rfl]
      · rw [if_pos (by simp only [Bool.or_eq_true, decide_eq_true_eq, a]; omega), decide_eq_false q, if_neg (by simp)])
    (by simp only [Z08_L1]; rw [if_neg (by simp)])
  rw [this]
  have e : (s.all fun c => decide (97 ≤ c.toNat ∧ c.toNat ≤ 122)) = decide (∀ c ∈ s, 97 ≤ c.toNat ∧ c.toNat ≤ 122) := by
    rw [Bool.eq_iff_iff]
    simp only [List.all_eq_true, decide_eq_true_eq]
  rw [e]
  by_cases c : ∀ c ∈ s, 97 ≤ c.toNat ∧ c.toNat ≤ 122
  · rw [decide_eq_true c, if_pos rfl]
    show some (decide ((s.length : Int) ≤ 6)) = _
    congr 1
    rw [Bool.eq_iff_iff]
    simp only [decide_eq_true_eq]
    exact ⟨fun h => ⟨by omega, c⟩, fun h => by have := h.1; omega⟩
  · rw [decide_eq_false c, decide_eq_false (fun z : LT s => c z.2)]; rfl
theorem iN {a b : UInt8} : ((a.toNat : Int) == (b.toNat : Int)) = decide (a = b) := by
  rw [Bool.eq_iff_iff]
  simp only [beq_iff_eq, decide_eq_true_eq]
  exact ⟨fun h => UInt8.toNat_inj.1 (by omega), fun h => by rw [h]⟩
theorem sK {s : aO} (h : s.length < cP) (b : UInt8) : Z07 s (b.toNat : Int) = some (decide (b ∈ s)) := by
  unfold Z07
  have := eP s (fun i : Int => Z07_L1 s (b.toNat : Int) i) (fun i => i) (fun c => !(decide (c = b))) (.inl true) (.inr ())
    (fun k j => by
      have a : (bt s (k : Int) == (b.toNat : Int)) = decide (ix s (k : Int) = b) := iN
      simp only [Z07_L1]
      rw [if_pos (by simp; omega), if_pos (by omega), cR (by omega), a]
      cases decide (ix s (k : Int) = b) <;> rfl)
    (by simp only [Z07_L1]; rw [if_neg (by simp)])
  rw [this]
  by_cases c : b ∈ s
  · have e : (s.all fun c => !(decide (c = b))) = false := by
      rw [List.all_eq_false]; exact ⟨b, c, by simp⟩
    rw [e, decide_eq_true c]; rfl
  · have e : (s.all fun c => !(decide (c = b))) = true := by
      rw [List.all_eq_true]; intro x g
      have : x ≠ b := fun q => c (q ▸ g)
      simp [this]
    rw [e, decide_eq_false c]; rfl
theorem oi (c : UInt8) : ((c.toNat : Int)).toNat.toUInt8 = c := by
  rw [Int.toNat_natCast]
  exact UInt8.ofNat_toNat
theorem pR (s : aO) (c : UInt8) : (Lib.indexByte s c < 0) ↔ c ∉ s := by
  induction s with
  | nil => simp [Lib.indexByte]
  | cons b l ih =>
    unfold Lib.indexByte
    by_cases e : b = c
    · subst e; simp
    · have a : (b == c) = false := by simpa using e
      have := Lib.indexByte_ge l c
      rw [a]
      simp only [Bool.false_eq_true, if_false, List.mem_cons, not_or]
      rw [← ih]
      by_cases q : Lib.indexByte l c = -1
      · rw [q]; simp; exact fun z => e z.symm
      · rw [if_neg (by simpa using q)]
        exact ⟨fun z => by omega, fun z => by omega⟩
theorem lg (s : aO) (c : UInt8) : ∃ r, Z0x s (c.toNat : Int) = some r ∧ (r < 0 ↔ c ∉ s) := by
  unfold Z0x dG
  rw [oi]
  exact ⟨_, rfl, pR s c⟩
def mR : aO → Option (aO × aO)
  | [] => none
  | [_] => none
  | x :: y :: r => if x = 45 ∧ y = 62 then some ([], r) else (mR (y :: r)).map fun p => (x :: p.1, p.2)
def ce : aO → Nat
  | [] => 0
  | [_] => 0
  | x :: y :: r => if x = 45 ∧ y = 62 then 0 else ce (y :: r) + 1
theorem iO : ∀ {s l o : aO}, mR s = some (l, o) → ce s = l.length ∧ s = l ++ 45 :: 62 :: o
  | [], _, _, h => by cases h
  | [_], _, _, h => by cases h
  | x :: y :: r, l, o, h => by
    unfold mR at h; unfold ce
    by_cases c : x = 45 ∧ y = 62
    · rw [if_pos c] at h ⊢
      obtain ⟨rfl, rfl⟩ := c
      cases h
      exact ⟨rfl, rfl⟩
    · rw [if_neg c] at h ⊢
      obtain ⟨⟨e, o'⟩, h1, h2⟩ := Option.map_eq_some_iff.1 h
      cases h2
      obtain ⟨a, b⟩ := iO h1
      exact ⟨by rw [a]; rfl, by rw [b]; rfl⟩
theorem nD : ∀ {s : aO}, mR s = none → s.length ≤ ce s + 1
  | [], h => by simp
  | [_], h => by simp
  | x :: y :: r, h => by
    unfold mR at h; unfold ce
    by_cases c : x = 45 ∧ y = 62
    · rw [if_pos c] at h; cases h
    · rw [if_neg c] at h ⊢
      have := nD (s := y :: r) (by simpa using h)
      simp at this ⊢; omega
theorem nE : ∀ {s : aO} {j : Nat}, j < ce s → j + 1 < s.length ∧ (s.drop j).take 2 ≠ [45, 62]
  | [], _, h => by simp [ce] at h
  | [_], _, h => by simp [ce] at h
  | x :: y :: r, j, h => by
    unfold ce at h
    by_cases c : x = 45 ∧ y = 62
    · rw [if_pos c] at h; omega
    · rw [if_neg c] at h
      cases j with
      | zero => exact ⟨by simp, by simpa using c⟩
      | succ j =>
        obtain ⟨a, b⟩ := nE (s := y :: r) (j := j) (by omega)
        exact ⟨by simp at a ⊢; omega, by simpa using b⟩
theorem sM : ∀ {s : aO}, ce s + 1 < s.length → (s.drop (ce s)).take 2 = [45, 62]
  | [], h => by simp at h
  | [_], h => by simp [ce] at h
  | x :: y :: r, h => by
    unfold ce at h ⊢
    by_cases c : x = 45 ∧ y = 62
    · rw [if_pos c]; obtain ⟨rfl, rfl⟩ := c; rfl
    · rw [if_neg c] at h ⊢
      have := sM (s := y :: r) (by simp at h ⊢; omega)
      simpa using this
theorem kB : ∀ (s : aO), Lib.index s str1 = match mR s with | some p => (p.1.length : Int) | none => -1
  | [] => rfl
  | [x] => by
    unfold Lib.index mR
    simp [str1, Lib.index]
  | x :: y :: r => by
    unfold Lib.index mR
    by_cases c : x = 45 ∧ y = 62
    · obtain ⟨rfl, rfl⟩ := c
      rw [if_pos (by simp [str1]), if_pos ⟨rfl, rfl⟩]; rfl
    · rw [if_neg (by simp [str1]; intro a b; exact c ⟨a.symm, b.symm⟩), if_neg c, kB (y :: r)]
      cases mR (y :: r) with
      | none => rfl
      | some p =>
        simp only [Option.map_some]
        rw [if_neg (by simp)]
        simp
def pre (p : aO) : List aO → List aO
  | [] => [p]
  | g :: gs => (p ++ g) :: gs
def fa : aO → List aO
  | [] => [[]]
  | x :: r => if x = 44 then [] :: fa r else pre [x] (fa r)
theorem iP (x : UInt8) (r : aO) : fa (x :: r) = if x = 44 then [] :: fa r else pre [x] (fa r) := rfl
theorem u9 (p : aO) (gs : List aO) : pre p gs ≠ [] := by cases gs <;> simp [pre]
theorem kc (s : aO) : fa s ≠ [] := by
  cases s with
  | nil => simp [fa]
  | cons x r => unfold fa; split; simp; exact u9 _ _
theorem nF {gs : List aO} (h : gs ≠ []) : pre [] gs = gs := by
  cases gs with
  | nil => exact absurd rfl h
  | cons g gs => rfl
theorem rH (p q : aO) (gs : List aO) : pre p (pre q gs) = pre (p ++ q) gs := by
  cases gs <;> simp [pre]
theorem rI (s : aO) : (fa s).length = s.count 44 + 1 := by
  induction s with
  | nil => rfl
  | cons x r ih =>
    unfold fa
    by_cases c : x = 44
    · subst c; simp [ih]
    · rw [if_neg c, List.count_cons_of_ne (fun z => c z)]
      cases h : fa r with
      | nil => exact absurd h (kc r)
      | cons g gs => rw [h] at ih; simpa [pre] using ih
theorem ua {s : aO} (h : s.count 44 = 0) : fa s = [s] := by
  induction s with
  | nil => rfl
  | cons x r ih =>
    have c : x ≠ 44 := by intro q; subst q; simp at h
    rw [List.count_cons_of_ne (fun z => c z)] at h
    unfold fa
    rw [if_neg c, ih h]; rfl
theorem rJ (s : aO) (c : UInt8) (a : c ≠ 44) : (∃ g ∈ fa s, c ∈ g) ↔ c ∈ s := by
  induction s with
  | nil => simp [fa]
  | cons x r ih =>
    unfold fa
    by_cases q : x = 44
    · subst q
      rw [if_pos rfl]
      simp [a, ih]
    · rw [if_neg q, List.mem_cons, ← ih]
      cases h : fa r with
      | nil => exact absurd h (kc r)
      | cons g gs => simp [pre, or_assoc]
theorem sO : ∀ {x : aO}, x.count 44 ≠ 0 → ∃ g r, x = g ++ 44 :: r ∧ Lib.index x str2 = (g.length : Int) ∧ fa x = g :: fa r ∧ x.count 44 = r.count 44 + 1
  | [], h => by simp at h
  | b :: l, h => by
    by_cases c : b = 44
    · subst c
      exact ⟨[], l, rfl, by unfold Lib.index; simp [str2], by rw [iP, if_pos rfl], by simp⟩
    · rw [List.count_cons_of_ne (fun z => c z)] at h
      obtain ⟨g, r, h1, h2, a, e⟩ := sO h
      refine ⟨b :: g, r, by rw [h1]; rfl, ?_, ?_, ?_⟩
      · unfold Lib.index
        rw [if_neg (by simp [str2]; exact fun z => c z.symm), h2, if_neg (by simp)]
        simp
      · rw [iP, if_neg c, a]; rfl
      · rw [List.count_cons_of_ne (fun z => c z)]; exact e
theorem rK {p : aO} (L : p.length ≤ 1048576) : Z1p p str2 = some (fa p) := by
  have hc : p.count 44 ≤ p.length := List.count_le_length
  have q : (if (aG ((p.length : Int) + 1)) < ((p.count 44 + 1 : Nat) : Int) then (aG ((p.length : Int) + 1)) else ((p.count 44 + 1 : Nat) : Int)) = ((p.count 44 + 1 : Nat) : Int) := by
    rw [cR (by unfold cP; omega), if_neg (by omega)]
  have hw : aG (((p.count 44 + 1 : Nat) : Int) - 1) = (p.count 44 : Int) := by rw [aX (by omega) (by omega)]; omega
  unfold Z1p Zw
  rw [if_neg (by decide), if_neg (by simp [str2]), if_pos (by decide)]
  have h : Z1z p str2 = some (p.count 44 : Int) := rfl
  rw [h]
  simp only [Option.bind_some]
  rw [cR (by unfold cP; omega)]
  unfold Zw_J2
  rw [q, if_pos (by omega), Int.toNat_natCast]
  obtain ⟨e, M, U⟩ := ka (f := fun s : aO × List aO × Int => Zw_L1 p str2 0 ((p.count 44 + 1 : Nat) : Int) s.1 s.2.1 s.2.2)
    (fun j s => s.2.2 = (j : Int) ∧ s.2.1.length = p.count 44 + 1 ∧ s.2.1.take j ++ fa s.1 = fa p ∧ s.1.count 44 + j = p.count 44 ∧ s.1.length ≤ 1048576) (p.count 44)
    (Post := fun e => e.2.2 = (p.count 44 : Int) ∧ e.2.1.length = p.count 44 + 1 ∧ e.2.1.take (p.count 44) ++ [e.1] = fa p)
    (fun j s hj E => by
      obtain ⟨x, a, i⟩ := s
      obtain ⟨h1, h2, b, u, D⟩ := E
      simp only at h1 h2 b u D
      subst h1
      obtain ⟨g, r, g1, I, J, g4⟩ := sO (x := x) (by omega)
      have hx : x.length = g.length + 1 + r.length := by rw [g1]; simp; omega
      have T : Z1o x str2 = some (g.length : Int) := by
        unfold Z1o cO
        rw [if_pos (by omega), I]; rfl
      have w0 : aG ((g.length : Int) + 0) = (g.length : Int) := by rw [aX (by omega) (by omega)]; omega
      have w1 : aG ((g.length : Int) + ((str2.length : Nat) : Int)) = ((g.length + 1 : Nat) : Int) := by
        show aG ((g.length : Int) + 1) = _
        exact cR (by unfold cP; omega)
      refine ⟨(r, a.set j g, ((j + 1 : Nat) : Int)), ?_, rfl, by simpa using h2, ?_, by show r.count 44 + (j + 1) = _; omega, by show r.length ≤ _; omega⟩
      · simp only [Zw_L1]
        rw [q, hw, if_pos (by simp; omega), T]
        simp only [Option.bind_some]
        rw [if_neg (by simp), w0, if_pos (by omega), if_pos (by simp; omega)]
        have F : sub x 0 (g.length : Int) = g := by rw [lc, g1]; simp
        have G : sub x ((g.length + 1 : Nat) : Int) (x.length : Int) = r := by rw [iL, Int.toNat_natCast, g1, List.drop_append]; simp
        rw [w1, F, Int.toNat_natCast]
        simp only [nm, Option.bind_some]
        rw [if_pos (by omega), G, cR (by unfold cP; omega)]
      · rw [← b, J, List.take_set]
        have m : j < a.length := by omega
        rw [List.take_succ_eq_append_getElem m, List.set_append_right _ _ (by simp; omega)]
        simp [Nat.min_eq_left (Nat.le_of_lt m)]
        )
    (fun s E => by
      obtain ⟨x, a, i⟩ := s
      obtain ⟨h1, h2, b, u, D⟩ := E
      simp only at h1 h2 b u D
      subst h1
      rw [ua (by omega)] at b
      refine ⟨(x, a, (p.count 44 : Int)), ?_, rfl, h2, b⟩
      simp only [Zw_L1]
      rw [q, hw, if_neg (by simp)])
    (s := (p, List.replicate (p.count 44 + 1) [], 0)) ⟨rfl, by simp, by simp, by simp, L⟩
  rw [M]
  obtain ⟨x, a, i⟩ := e
  obtain ⟨h1, h2, b⟩ := U
  simp only at h1 h2 b
  subst h1
  simp only [Option.bind_some, Zw_J3]
  rw [q, if_pos (by simp; omega), cR (by unfold cP; omega), if_pos (by simp; omega), Int.toNat_natCast]
  simp only [Option.bind_some]
  congr 1
  rw [lc, List.take_set, ← b]
  have m : p.count 44 < a.length := by omega
  rw [List.take_succ_eq_append_getElem m, List.set_append_right _ _ (by simp; omega)]
  simp [Nat.min_eq_left (Nat.le_of_lt m)]
def OL (gs : List aO) (o : aO) (i : Nat) : Prop := (∃ g ∈ gs, ix o (i : Int) ∈ g) ∧ ix o (i : Int) ∉ o.take i
instance (gs : List aO) (o : aO) (i : Nat) : Decidable (OL gs o i) := by unfold OL; infer_instance
def PO (gs : List aO) (o : aO) : Prop := gs.length ≤ 6 ∧ LT o ∧ (∀ g ∈ gs, LT g) ∧ ∀ i ∈ List.range o.length, OL gs o i
instance (gs : List aO) (o : aO) : Decidable (PO gs o) := by unfold PO; infer_instance
def parts (form : aO) : List aO × aO × Bool := match mR form with
  | none => ([], [], false)
  | some p => if PO (fa p.1) p.2 then (fa p.1, p.2, true) else ([], [], false)
theorem xK {form : aO} (i : form.length ≤ 1048576) : bC (fun s : Int => Z0_L1 form s) 0 = some (ce form : Int) := by
  have w : ∀ j : Nat, j ≤ 1048576 → aG ((j : Int) + 1) = ((j + 1 : Nat) : Int) ∧ aG ((j : Int) + 2) = ((j + 2 : Nat) : Int) := by
    intro j e
    exact ⟨cR (by unfold cP; omega), by rw [aX (by omega) (by omega)]; omega⟩
  have g : ∀ j : Nat, sub form (j : Int) ((j + 2 : Nat) : Int) = (form.drop j).take 2 := by
    intro j
    unfold sub
    rw [Int.toNat_natCast, Int.toNat_natCast, List.drop_take]
    congr 1; omega
  have h : ce form ≤ form.length := by
    by_cases c : ce form = 0
    · omega
    · have := (nE (s := form) (j := ce form - 1) (by omega)).1; omega
  refine dN (f := fun s : Int => Z0_L1 form s) (fun j => (j : Int)) (ce form) (fun j e => ?_) ?_ rfl
  · obtain ⟨a, b⟩ := nE e
    simp only [Z0_L1]
    rw [(w j (by omega)).1, (w j (by omega)).2, g, if_pos (fun _ => by omega), if_pos]
    simp only [Bool.and_eq_true, decide_eq_true_eq, Bool.not_eq_true', beq_eq_false_iff_ne]
    exact ⟨by omega, b⟩
  · simp only [Z0_L1]
    rw [(w _ (by omega)).1, (w _ (by omega)).2, g]
    by_cases c : ce form + 1 < form.length
    · rw [if_pos (fun _ => by omega), if_neg]
      rw [sM c]; simp [str1]
    · rw [if_pos (fun z => by simp at z; omega), if_neg]
      simp only [Bool.and_eq_true, decide_eq_true_eq]
      omega
theorem pS {form l o : aO} (hb : form.length ≤ 1048576) (h : mR form = some (l, o)) : bC (fun s : List aO × Int × Int => Z0_L2 form (l.length : Int) s.1 s.2.1 s.2.2) ([], 0, 0) = some (fa l) := by
  obtain ⟨e1, D⟩ := iO h
  have hl : form.length = l.length + 2 + o.length := by rw [D]; simp; omega
  obtain ⟨r, hr, U⟩ := ka (f := fun s : List aO × Int × Int => Z0_L2 form (l.length : Int) s.1 s.2.1 s.2.2)
    (fun j s => s.2.2 = (j : Int) ∧ s.1.length ≤ j ∧ ((∃ F : Nat, F ≤ j ∧ s.2.1 = (F : Int) ∧ j ≤ l.length ∧ s.1 ++ pre ((l.take j).drop F) (fa (l.drop j)) = fa l) ∨ (j = l.length + 1 ∧ s.1 = fa l))) (l.length + 1)
    (Post := fun r => r = fa l)
    (fun j s hj E => by
      obtain ⟨gs, g, i⟩ := s
      obtain ⟨h1, h2, u⟩ := E
      simp only at h1 h2 u
      subst h1
      rcases u with ⟨F, f1, J, L, e⟩ | ⟨q, _⟩
      · subst J
        have M : sub form (F : Int) (j : Int) = (l.take j).drop F := by
          unfold sub
          rw [Int.toNat_natCast, Int.toNat_natCast, D, List.take_append_of_le_length L]
        simp only [Z0_L2]
        rw [if_pos (by simp; omega), if_pos (fun _ => by omega)]
        by_cases c : j = l.length
        · rw [if_pos (by simp [c]), if_pos (by omega), M, if_pos (by simp; omega)]
          simp only [Z0_J3]
          refine ⟨_, by rw [cR (by unfold cP; omega)], rfl, by simp; omega, .inr ⟨by omega, ?_⟩⟩
          subst c
          rw [List.drop_length] at e
          simpa [fa, pre] using e
        · have m : j < l.length := by omega
          have T : l.drop j = l[j] :: l.drop (j + 1) := List.drop_eq_getElem_cons m
          have G : (bt form (j : Int) == 44) = decide (l[j] = 44) := by
            have : ix form (j : Int) = l[j] := by
              rw [cB (by omega)]
              simp only [D]
              rw [List.getElem_append_left m]
            unfold bt
            rw [this]
            have := iN (a := l[j]) (b := 44)
            simpa using this
          have I : ((j : Int) == (l.length : Int)) = false := by simp; omega
          rw [G, I, Bool.false_or]
          rw [T, iP] at e
          by_cases q : l[j] = 44
          · rw [decide_eq_true q, if_pos rfl, if_pos (by omega), M, if_pos (by simp; omega)]
            simp only [Z0_J3]
            rw [cR (by unfold cP; omega)]
            refine ⟨_, rfl, rfl, by simp; omega, .inl ⟨j + 1, Nat.le_refl _, rfl, by omega, ?_⟩⟩
            rw [if_pos q] at e
            have z : List.drop (j + 1) (List.take (j + 1) l) = [] := List.drop_of_length_le (by simp; omega)
            rw [z, nF (kc _), ← e]
            simp [pre]
          · rw [decide_eq_false q, if_neg (by simp)]
            simp only [Z0_J3]
            rw [cR (by unfold cP; omega)]
            refine ⟨_, rfl, rfl, by show gs.length ≤ _; omega, .inl ⟨F, by omega, rfl, by omega, ?_⟩⟩
            rw [if_neg q, rH] at e
            rw [← e, List.take_succ_eq_append_getElem m, List.drop_append_of_le_length (by simp; omega)]
      · omega)
    (fun s E => by
      obtain ⟨gs, g, i⟩ := s
      obtain ⟨h1, h2, u⟩ := E
      simp only at h1 h2 u
      subst h1
      rcases u with ⟨F, f1, J, L, e⟩ | ⟨_, q⟩
      · omega
      · refine ⟨gs, ?_, q⟩
        simp only [Z0_L2]
        rw [if_neg (by simp; omega)])
    (s := ([], 0, 0)) ⟨rfl, by simp, .inl ⟨0, by omega, rfl, by omega, by simp [nF (kc l)]⟩⟩
  rw [hr, U]
theorem mS {s g : aO} (h : g ∈ fa s) : g.length ≤ s.length := by
  induction s generalizing g with
  | nil => simp [fa] at h; simp [h]
  | cons x r ih =>
    rw [iP] at h
    by_cases c : x = 44
    · rw [if_pos c] at h
      rcases List.mem_cons.1 h with q | q
      · simp [q]
      · have := ih q; simp; omega
    · rw [if_neg c] at h
      cases e : fa r with
      | nil => exact absurd e (kc r)
      | cons g' gs =>
        rw [e] at h ih
        simp only [pre, List.mem_cons] at h
        rcases h with q | q
        · have := ih (g := g') (by simp); rw [q]; simp; omega
        · have := ih (g := g) (by simp [q]); simp; omega
theorem wv {gs : List aO} {o : aO} {form : aO} {x i : Int} (q : gs.length < cP) (m : ∀ g ∈ gs, g.length < cP) (D : sub form (aG (x + 2)) (form.length : Int) = o) (u : 0 ≤ i ∧ i < (o.length : Int)) :
    bC (fun s : Bool × Int => Z0_L5 form x gs i s.1 s.2) (false, 0) = some (decide (∃ g ∈ gs, ix o i ∈ g)) := by
  have e : ∀ b : Bool, decide (∃ g ∈ gs, ix o i ∈ g) = gs.any fun g => decide (ix o i ∈ g) := by
    intro _
    rw [Bool.eq_iff_iff]; simp
  rw [e true]
  refine dN (f := fun s : Bool × Int => Z0_L5 form x gs i s.1 s.2) (fun j => ((gs.take j).any fun g => decide (ix o i ∈ g), (j : Int))) gs.length (fun j a => ?_) ?_ rfl
  · simp only [Z0_L5]
    rw [D, if_pos (by simp; omega), if_pos (fun _ => by omega), if_pos (fun _ => u), List.take_succ_eq_append_getElem a, List.any_append, cR (by omega), cB a]
    have h : bt o i = ((ix o i).toNat : Int) := rfl
    rw [h, sK (m _ (List.getElem_mem a))]
    cases (gs.take j).any fun g => decide (ix o i ∈ g) with
    | true => simp [cT]
    | false => simp [cT]
  · simp only [Z0_L5]
    rw [if_neg (by simp), List.take_length]
theorem nG {form : aO} (G : form.length ≤ 1048576) : Z0 form = some (parts form) := by
  unfold Z0
  rw [xK G]
  simp only [Option.bind_some, Z0_J1]
  unfold parts
  have T : ce form ≤ form.length := by
    by_cases c : ce form = 0
    · omega
    · have := (nE (s := form) (j := ce form - 1) (by omega)).1; omega
  rw [cR (by unfold cP; omega)]
  cases h : mR form with
  | none =>
    have := nD h
    rw [if_pos (by simp; omega)]
  | some p =>
    obtain ⟨l, o⟩ := p
    obtain ⟨L, F⟩ := iO h
    have U : form.length = l.length + 2 + o.length := by rw [F]; simp; omega
    rw [if_neg (by simp; omega), L, pS G h]
    simp only [Option.bind_some]
    have J : aG ((l.length : Int) + 2) = ((l.length + 2 : Nat) : Int) := by rw [aX (by omega) (by omega)]; omega
    have b : sub form (aG ((l.length : Int) + 2)) (form.length : Int) = o := by
      rw [J, iL, Int.toNat_natCast, F, List.drop_append]
      simp
    have u : (fa l).length < cP := by
      rw [rI]; have : l.count 44 ≤ l.length := List.count_le_length; unfold cP; omega
    unfold Z0_J4
    rw [b, if_pos (by rw [J]; omega), kA (by unfold cP; omega)]
    by_cases c1 : (fa l).length ≤ 6
    · have d1 : decide (((fa l).length : Int) > 6) = false := by simp; omega
      rw [d1]
      simp only [cT, Bool.not_false, cond_true, Option.bind_some, Bool.false_or]
      by_cases c2 : LT o
      · rw [decide_eq_true c2, if_neg (by simp)]
        have D := eP (fa l) (fun s : Int => Z0_L3 (fa l) s) (fun i => i) (fun g => decide (LT g)) (.inl ([], [], false)) (.inr ())
          (fun k I => by
            simp only [Z0_L3]
            rw [if_pos (by simp; omega), if_pos (by omega), cR (by omega), kA (by have := mS (bJ I); unfold cP; omega)]
            cases decide (LT (ix (fa l) (k : Int))) <;> rfl)
          (by simp only [Z0_L3]; rw [if_neg (by simp)])
        rw [D]
        by_cases c3 : ∀ g ∈ fa l, LT g
        · have e : ((fa l).all fun g => decide (LT g)) = true := by
            rw [List.all_eq_true]; intro g a; exact decide_eq_true (c3 g a)
          rw [e, if_pos rfl]
          simp only [Option.bind_some]
          unfold Z0_J5
          have E := ky o.length (fun s : Int => Z0_L4 form (l.length : Int) (fa l) s) (fun i => i) (fun k => decide (OL (fa l) o k)) (.inl ([], [], false)) (.inr ())
            (fun k I => by
              simp only [Z0_L4]
              rw [b, if_pos (by simp; omega), wv u (fun g a => by have := mS a; unfold cP; omega) b (by omega)]
              simp only [Option.bind_some, Z0_J7]
              rw [b, if_pos (fun _ => by omega), if_pos (fun _ => by omega), lc]
              have q : bt o (k : Int) = ((ix o (k : Int)).toNat : Int) := rfl
              rw [q, sK (by simp; unfold cP; omega), cR (by unfold cP; omega)]
              by_cases q1 : ∃ g ∈ fa l, ix o (k : Int) ∈ g
              · by_cases q2 : ix o (k : Int) ∈ o.take k
                · rw [decide_eq_true q1, decide_eq_true q2, decide_eq_false (fun z : OL (fa l) o k => z.2 q2)]; rfl
                · rw [decide_eq_true q1, decide_eq_false q2, show decide (OL (fa l) o k) = true from decide_eq_true ⟨q1, q2⟩]; rfl
              · rw [decide_eq_false q1, decide_eq_false (fun z : OL (fa l) o k => q1 z.1)]; rfl)
            (by simp only [Z0_L4]; rw [b, if_neg (by simp)])
          rw [E]
          by_cases c4 : ∀ i ∈ List.range o.length, OL (fa l) o i
          · have m : ((List.range o.length).all fun k => decide (OL (fa l) o k)) = true := by
              rw [List.all_eq_true]; intro g a; exact decide_eq_true (c4 g a)
            rw [m, if_pos rfl, if_pos ⟨c1, c2, c3, c4⟩]
            simp only [Option.bind_some, Z0_J8]
            rw [b]
          · have m : ((List.range o.length).all fun k => decide (OL (fa l) o k)) = false := by
              rw [Bool.eq_false_iff]; intro z
              exact c4 fun i M => of_decide_eq_true (List.all_eq_true.1 z i M)
            rw [m, if_neg (by simp), if_neg (fun z => c4 z.2.2.2)]; rfl
        · have e : ((fa l).all fun g => decide (LT g)) = false := by
            rw [Bool.eq_false_iff]; intro z
            exact c3 fun g a => of_decide_eq_true (List.all_eq_true.1 z g a)
          rw [e, if_neg (by simp), if_neg (fun z => c3 z.2.2.1)]; rfl
      · rw [decide_eq_false c2, if_pos (by simp), if_neg (fun z => c2 z.2.1)]
    · have d1 : decide (((fa l).length : Int) > 6) = true := by simp; omega
      rw [d1, if_neg (fun z => c1 z.1)]
      simp [cT]
theorem ww {form : aO} (j : form.length ≤ 1048576) : Z1n form str1 = some (match mR form with | none => (form, [], false) | some p => (p.1, p.2, true)) := by
  unfold Z1n dU cO
  rw [if_pos (by omega), kB]
  simp only [Option.bind_some]
  cases h : mR form with
  | none => simp
  | some p =>
    obtain ⟨l, o⟩ := p
    obtain ⟨i, a⟩ := iO h
    have m : form.length = l.length + 2 + o.length := by rw [a]; simp; omega
    have g : aG ((l.length : Int) + ((str1.length : Nat) : Int)) = ((l.length + 2 : Nat) : Int) := by
      show aG ((l.length : Int) + 2) = _
      rw [aX (by omega) (by omega)]; omega
    simp only
    rw [if_pos (by simp), if_pos (by omega), g, if_pos (by omega)]
    have b : sub form 0 (l.length : Int) = l := by rw [lc, a]; simp
    have e : sub form ((l.length + 2 : Nat) : Int) (form.length : Int) = o := by
      rw [iL, Int.toNat_natCast, a, List.drop_append]; simp
    rw [b, e]; rfl
theorem rL {gs : List aO} {x : Nat} (e : x < gs.length) (h : (ix gs (x : Int)).length < cP) :
    bC (fun s : Int => Z9_L2 gs (x : Int) s) 0 = some (if ∀ c ∈ ix gs (x : Int), 97 ≤ c.toNat ∧ c.toNat ≤ 122 then .inr () else .inl ([], [], false)) := by
  obtain ⟨g, a⟩ : ∃ g, g = ix gs (x : Int) := ⟨_, rfl⟩
  have := eP g (fun s : Int => Z9_L2 gs (x : Int) s) (fun i => i) (fun c => decide (97 ≤ c.toNat ∧ c.toNat ≤ 122)) (.inl ([], [], false)) (.inr ())
    (fun k j => by
      have b : bt g (k : Int) = ((ix g (k : Int)).toNat : Int) := rfl
      simp only [Z9_L2]
      rw [← a, if_pos (by simp; omega), if_pos (by omega), cR (by rw [← a] at h; omega)]
      by_cases q : 97 ≤ (ix g (k : Int)).toNat ∧ (ix g (k : Int)).toNat ≤ 122
      · rw [if_neg (by simp only [Bool.or_eq_true, decide_eq_true_eq, b]; omega), decide_eq_true q, if_pos rfl]
      · rw [if_pos (by simp only [Bool.or_eq_true, decide_eq_true_eq, b]; omega), decide_eq_false q, if_neg (by simp)])
    (by simp only [Z9_L2]; rw [← a, if_neg (by simp)])
  rw [this, ← a]
  by_cases c : ∀ c ∈ g, 97 ≤ c.toNat ∧ c.toNat ≤ 122
  · rw [if_pos c, if_pos (by rw [List.all_eq_true]; intro x e; exact decide_eq_true (c x e))]
  · rw [if_neg c, if_neg]
    intro z
    exact c fun x e => of_decide_eq_true (List.all_eq_true.1 z x e)
theorem rM {form : aO} (U : form.length ≤ 1048576) : Z9 form = some (parts form) := by
  unfold Z9 parts
  rw [ww U]
  simp only [Option.bind_some]
  cases h : mR form with
  | none => simp
  | some p =>
    obtain ⟨l, o⟩ := p
    obtain ⟨e1, T⟩ := iO h
    have hl : form.length = l.length + 2 + o.length := by rw [T]; simp; omega
    simp only [Bool.not_true, Bool.false_or]
    by_cases c0 : o.length ≤ 6
    · rw [if_neg (by simp; omega), rK (by omega)]
      simp only [Option.bind_some]
      by_cases c1 : (fa l).length ≤ 6
      · rw [if_neg (by simp; omega)]
        have F := eP (fa l) (fun s : Int => Z9_L1 (fa l) s) (fun i => i) (fun g => decide (LT g)) (.inl ([], [], false)) (.inr ())
          (fun k b => by
            have e := mS (bJ b)
            simp only [Z9_L1]
            rw [if_pos (by simp; omega), if_pos (by omega)]
            by_cases q1 : (ix (fa l) (k : Int)).length ≤ 6
            · rw [if_neg (by simp; omega), rL b (by unfold cP; omega)]
              by_cases q2 : ∀ c ∈ ix (fa l) (k : Int), 97 ≤ c.toNat ∧ c.toNat ≤ 122
              · rw [if_pos q2, show decide (LT (ix (fa l) (k : Int))) = true from decide_eq_true ⟨q1, q2⟩, if_pos rfl]
                simp only [Option.bind_some, Z9_J2]
                rw [cR (by unfold cP; omega)]
              · rw [if_neg q2, show decide (LT (ix (fa l) (k : Int))) = false from decide_eq_false (fun z => q2 z.2), if_neg (by simp)]; rfl
            · rw [if_pos (by simp; omega), show decide (LT (ix (fa l) (k : Int))) = false from decide_eq_false (fun z => q1 z.1), if_neg (by simp)])
          (by simp only [Z9_L1]; rw [if_neg (by simp)])
        rw [F]
        by_cases c3 : ∀ g ∈ fa l, LT g
        · have u : ((fa l).all fun g => decide (LT g)) = true := by
            rw [List.all_eq_true]; intro g e; exact decide_eq_true (c3 g e)
          rw [u, if_pos rfl]
          simp only [Option.bind_some]
          unfold Z9_J3
          have G := ky o.length (fun s : Int => Z9_L3 (l, o, true) s) (fun i => i) (fun k => decide ((97 ≤ (ix o (k : Int)).toNat ∧ (ix o (k : Int)).toNat ≤ 122) ∧ OL (fa l) o k)) (.inl ([], [], false)) (.inr ())
            (fun k b => by
              have a : bt o (k : Int) = ((ix o (k : Int)).toNat : Int) := rfl
              simp only [Z9_L3]
              rw [if_pos (by simp; omega), if_pos (by omega), cR (by unfold cP; omega), lc]
              by_cases q : 97 ≤ (ix o (k : Int)).toNat ∧ (ix o (k : Int)).toNat ≤ 122
              · have m : (decide (bt o (k : Int) < 97) || decide (bt o (k : Int) > 122)) = false := by
                  rw [Bool.eq_false_iff]; simp only [ne_eq, Bool.or_eq_true, decide_eq_true_eq, a]; omega
                rw [m, if_pos (fun _ => by omega)]
                have E : ix o (k : Int) ≠ 44 := by
                  intro z; rw [z] at q; exact absurd q (by decide)
                obtain ⟨I, r2, J⟩ := lg (o.take k) (ix o (k : Int))
                obtain ⟨L, s2, s3⟩ := lg l (ix o (k : Int))
                rw [a, r2, s2]
                simp only [cT, Bool.not_false, cond_true, Option.bind_some, Bool.false_or]
                rw [← rJ l _ E] at s3
                by_cases q2 : ix o (k : Int) ∈ o.take k
                · have : decide (I ≥ 0) = true := by
                    rw [decide_eq_true_eq]
                    have : ¬ I < 0 := fun z => J.1 z q2
                    omega
                  rw [this, decide_eq_false (fun z => z.2.2 q2)]; rfl
                · have : decide (I ≥ 0) = false := by
                    rw [decide_eq_false_iff_not]
                    have := J.2 q2
                    omega
                  rw [this]
                  simp only [Bool.not_false, cond_true, Option.bind_some, Bool.false_or]
                  by_cases q3 : ∃ g ∈ fa l, ix o (k : Int) ∈ g
                  · have : decide (L < 0) = false := by
                      rw [decide_eq_false_iff_not]
                      exact fun z => s3.1 z q3
                    rw [this, decide_eq_true ⟨q, q3, q2⟩]; rfl
                  · have : decide (L < 0) = true := decide_eq_true (s3.2 q3)
                    rw [this, decide_eq_false (fun z => q3 z.2.1)]; rfl
              · have m : (decide (bt o (k : Int) < 97) || decide (bt o (k : Int) > 122)) = true := by
                  simp only [Bool.or_eq_true, decide_eq_true_eq, a]; omega
                rw [m, if_pos (fun z => by cases z), decide_eq_false (fun z => q z.1)]
                rfl)
            (by simp only [Z9_L3]; rw [if_neg (by simp)])
          rw [G]
          by_cases c4 : PO (fa l) o
          · have D : ((List.range o.length).all fun k => decide ((97 ≤ (ix o (k : Int)).toNat ∧ (ix o (k : Int)).toNat ≤ 122) ∧ OL (fa l) o k)) = true := by
              rw [List.all_eq_true]; intro k b
              exact decide_eq_true ⟨c4.2.1.2 _ (bJ (List.mem_range.1 b)), c4.2.2.2 k b⟩
            rw [D, if_pos rfl, if_pos c4]; rfl
          · have D : ((List.range o.length).all fun k => decide ((97 ≤ (ix o (k : Int)).toNat ∧ (ix o (k : Int)).toNat ≤ 122) ∧ OL (fa l) o k)) = false := by
              rw [Bool.eq_false_iff]; intro z
              have M := List.all_eq_true.1 z
              refine c4 ⟨c1, ⟨c0, fun c hc => ?_⟩, c3, fun i j => (of_decide_eq_true (M i j)).2⟩
              obtain ⟨i, j, rfl⟩ := List.mem_iff_getElem.1 hc
              have := (of_decide_eq_true (M i (List.mem_range.2 j))).1
              rwa [cB j] at this
            rw [D, if_neg (by simp), if_neg c4]; rfl
        · have u : ((fa l).all fun g => decide (LT g)) = false := by
            rw [Bool.eq_false_iff]; intro z
            exact c3 fun g e => of_decide_eq_true (List.all_eq_true.1 z g e)
          rw [u, if_neg (by simp), if_neg (fun z => c3 z.2.2.1)]; rfl
      · rw [if_pos (by simp; omega), if_neg (fun z => c1 z.1)]
    · rw [if_pos (by simp; omega), if_neg (fun z => c0 z.2.1.1)]
def mT {S : Type} (st : S → Nat → Option S) : Nat → S → Option S
  | 0, s => some s
  | n + 1, s => (mT st n s).bind fun s' => st s' n
theorem gk {S T A B : Type} {f : T → Option (T ⊕ (A ⊕ B))} (st : S → Nat → Option S) (mk : S → Int → T) (i : S → B) (e : A → Prop) (a : Nat → S → Prop) (n : Nat)
    (h1 : ∀ j s, j < n → a j s → (∃ s', st s j = some s' ∧ f (mk s (j : Int)) = some (.inl (mk s' ((j + 1 : Nat) : Int))) ∧ a (j + 1) s') ∨ (st s j = none ∧ ∃ b, f (mk s (j : Int)) = some (.inr (.inl b)) ∧ e b))
    (h2 : ∀ s, a n s → f (mk s (n : Int)) = some (.inr (.inr (i s)))) {s : S} (G : a 0 s) :
    (∃ s', mT st n s = some s' ∧ bC f (mk s 0) = some (.inr (i s')) ∧ a n s') ∨ (mT st n s = none ∧ ∃ b, bC f (mk s 0) = some (.inl b) ∧ e b) := by
  have E : ∀ j, j ≤ n → (∃ s', mT st j s = some s' ∧ bC f (mk s 0) = bC f (mk s' (j : Int)) ∧ a j s') ∨ (mT st j s = none ∧ ∃ b, bC f (mk s 0) = some (.inl b) ∧ e b) := by
    intro j
    induction j with
    | zero => intro _; exact .inl ⟨s, rfl, rfl, G⟩
    | succ j ih =>
      intro I
      rcases ih (by omega) with ⟨s', g, h, a3⟩ | ⟨g, h⟩
      · rcases h1 j s' (by omega) a3 with ⟨F, m, u, D⟩ | ⟨m, b, u, D⟩
        · exact .inl ⟨F, by rw [mT, g]; exact m, by rw [h, eV u], D⟩
        · exact .inr ⟨by rw [mT, g]; exact m, b, by rw [h, eD u], D⟩
      · exact .inr ⟨by rw [mT, g]; rfl, h⟩
  rcases E n (Nat.le_refl _) with ⟨s', g, h, a3⟩ | q
  · exact .inl ⟨s', g, by rw [h, eD (h2 s' a3)], a3⟩
  · exact .inr q
def lk (lens : List Int) (c : UInt8) : Int := ix lens ((c.toNat : Int) - 97)
def ip (s : aO × List Int) (c : UInt8) (d : Int) : Option (aO × List Int) :=
  if lk s.2 c ≠ 0 ∧ lk s.2 c ≠ d then none else some (if c ∈ s.1 then s.1 else s.1 ++ [c], s.2.set (c.toNat - 97) d)
def iq (g : aO) (ds : List Int) (s : aO × List Int) : Option (aO × List Int) :=
  if g.length = ds.length then mT (fun s k => ip s (ix g (k : Int)) (ix ds (k : Int))) g.length s else none
def jp (gs : List aO) (dss : List (List Int)) (s : aO × List Int) : Option (aO × List Int) := mT (fun s k => iq (ix gs (k : Int)) (ix dss (k : Int)) s) gs.length s
theorem pT {c : UInt8} (h : 97 ≤ c.toNat ∧ c.toNat ≤ 122) : IntKind.wrap .u8 ((c.toNat : Int) - 97) = (c.toNat : Int) - 97 := by
  unfold IntKind.wrap
  simp [IntKind.bits, IntKind.signed]
  omega
theorem nH {g : aO} {k : Nat} (h : k < g.length) : sub g (k : Int) ((k + 1 : Nat) : Int) = [ix g (k : Int)] := by
  unfold sub
  rw [Int.toNat_natCast, Int.toNat_natCast, List.take_succ_eq_append_getElem h, List.drop_append_of_le_length (by simp; omega), cB h]
  simp
theorem ub {gs : List aO} {dss : List (List Int)} {b : List aO × aO × Bool} {x : Nat} (L : b.1 = gs) (hx : x < gs.length) (D : LT (ix gs (x : Int))) {m : Nat} (hm : m ≤ 100) {s : aO × List Int} (h1 : s.1.length ≤ m) (h2 : s.2.length = 26) (F : (ix gs (x : Int)).length = (ix dss (x : Int)).length) :
    (∃ s', iq (ix gs (x : Int)) (ix dss (x : Int)) s = some s' ∧ bC (fun s : aO × List Int × Int => Z1_L2 dss b (x : Int) s.1 s.2.1 s.2.2) (s.1, s.2, 0) = some (.inr (s'.1, s'.2)) ∧ s'.1.length ≤ m + 6 ∧ s'.2.length = 26) ∨
    (iq (ix gs (x : Int)) (ix dss (x : Int)) s = none ∧ ∃ e, bC (fun s : aO × List Int × Int => Z1_L2 dss b (x : Int) s.1 s.2.1 s.2.2) (s.1, s.2, 0) = some (.inl e) ∧ e.2 = false) := by
  obtain ⟨g, u⟩ : ∃ g, g = ix gs (x : Int) := ⟨_, rfl⟩
  obtain ⟨ds, h⟩ : ∃ ds, ds = ix dss (x : Int) := ⟨_, rfl⟩
  have a : ix b.1 (x : Int) = g := by rw [L, u]
  rw [← u] at D F ⊢
  rw [← h] at F ⊢
  unfold iq
  rw [if_pos F]
  rcases gk (f := fun s : aO × List Int × Int => Z1_L2 dss b (x : Int) s.1 s.2.1 s.2.2) (fun s k => ip s (ix g (k : Int)) (ix ds (k : Int))) (fun s i => (s.1, s.2, i)) (fun s => (s.1, s.2)) (fun e => e.2 = false) (fun j s => s.1.length ≤ m + j ∧ s.2.length = 26) g.length
    (fun j s I G => by
      obtain ⟨i1, i2⟩ := G
      have M := D.2 _ (bJ I)
      have T := D.1
      have E : bt g (j : Int) = ((ix g (j : Int)).toNat : Int) := rfl
      simp only [Z1_L2]
      rw [a, ← h, if_pos (by simp; omega), if_pos (by omega), E, pT M, if_pos (by omega), if_pos (fun _ => by omega)]
      show (∃ s', ip s _ _ = _ ∧ _) ∨ _
      unfold ip
      by_cases c : lk s.2 (ix g (j : Int)) ≠ 0 ∧ lk s.2 (ix g (j : Int)) ≠ ix ds (j : Int)
      · rw [if_pos c, if_pos (by unfold lk at c; simpa using c)]
        exact .inr ⟨rfl, _, rfl, rfl⟩
      · rw [if_neg c]
        obtain ⟨r, r1, J⟩ := lg s.1 (ix g (j : Int))
        have ht : ((((ix g (j : Int)).toNat : Int) - 97)).toNat = (ix g (j : Int)).toNat - 97 := by omega
        have U : ¬ (((ix s.2 (((ix g (j : Int)).toNat : Int) - 97)) != 0) && ((ix s.2 (((ix g (j : Int)).toNat : Int) - 97)) != (ix ds (j : Int)))) = true := by
          unfold lk at c; simpa using c
        refine .inl ⟨_, rfl, ?_, ?_, by simpa using i2⟩
        · rw [if_neg U, if_pos (by omega)]
          simp only [nm, Option.bind_some]
          rw [r1, ht]
          simp only [Option.bind_some]
          by_cases q : ix g (j : Int) ∈ s.1
          · rw [if_neg (by simp; have : ¬ r < 0 := fun z => J.1 z q; omega), if_pos q]
            simp only [Z1_J5]
            rw [cR (by unfold cP; omega)]
          · rw [if_pos (decide_eq_true (J.2 q)), cR (by unfold cP; omega), if_pos (by omega), nH I, if_pos (by simp; omega), if_neg q]
            simp only [Z1_J5]
            rw [cR (by unfold cP; omega)]
        · by_cases q : ix g (j : Int) ∈ s.1
          · simp only [if_pos q]; omega
          · simp only [if_neg q]; simp; omega)
    (fun s G => by
      simp only [Z1_L2]
      rw [a, if_neg (by simp)])
    (s := s) ⟨by omega, h2⟩ with ⟨s', a1, a2, a3, a4⟩ | ⟨a1, e, a2, a3⟩
  · have := D.1
    exact .inl ⟨s', a1, a2, by omega, a4⟩
  · exact .inr ⟨a1, e, a2, a3⟩
theorem uc {gs : List aO} {dss : List (List Int)} {b : List aO × aO × Bool} (q : b.1 = gs) (J : gs.length ≤ 6) (E : ∀ g ∈ gs, LT g) (I : gs.length = dss.length) {s : aO × List Int} (h1 : s.1.length ≤ 6) (h2 : s.2.length = 26) :
    (∃ s', jp gs dss s = some s' ∧ bC (fun s : aO × List Int × Int => Z1_L1 dss b s.1 s.2.1 s.2.2) (s.1, s.2, 0) = some (.inr (s'.1, s'.2)) ∧ s'.1.length ≤ 42 ∧ s'.2.length = 26) ∨
    (jp gs dss s = none ∧ ∃ e, bC (fun s : aO × List Int × Int => Z1_L1 dss b s.1 s.2.1 s.2.2) (s.1, s.2, 0) = some (.inl e) ∧ e.2 = false) := by
  unfold jp
  rcases gk (f := fun s : aO × List Int × Int => Z1_L1 dss b s.1 s.2.1 s.2.2) (fun s k => iq (ix gs (k : Int)) (ix dss (k : Int)) s) (fun s i => (s.1, s.2, i)) (fun s => (s.1, s.2)) (fun e => e.2 = false) (fun j s => s.1.length ≤ 6 + 6 * j ∧ s.2.length = 26) gs.length
    (fun j s D u => by
      obtain ⟨F, G⟩ := u
      simp only [Z1_L1]
      rw [q, if_pos (by simp; omega), if_pos (by omega), if_pos (by omega)]
      by_cases c : (ix gs (j : Int)).length = (ix dss (j : Int)).length
      · rw [if_neg (by simp; omega)]
        rcases ub (m := 6 + 6 * j) q D (E _ (bJ D)) (by omega) F G c with ⟨s', a, h, a3, a4⟩ | ⟨a, e, h, a3⟩
        · rw [h]
          refine .inl ⟨s', a, ?_, by omega, a4⟩
          simp only [Option.bind_some, Z1_J6]
          rw [cR (by unfold cP; omega)]
        · rw [h]
          exact .inr ⟨a, e, rfl, a3⟩
      · rw [if_pos (by simp; omega)]
        refine .inr ⟨by unfold iq; rw [if_neg c], _, rfl, rfl⟩)
    (fun s u => by
      simp only [Z1_L1]
      rw [q, if_neg (by simp)])
    (s := s) ⟨by omega, h2⟩ with ⟨s', a, h, a3, a4⟩ | ⟨a, e, h, a3⟩
  · exact .inl ⟨s', a, h, by omega, a4⟩
  · exact .inr ⟨a, e, h, a3⟩
theorem pU : ∀ {f : aO} {c : UInt8} {j : Nat}, j < f.idxOf c → ∀ h : j < f.length, f[j] ≠ c
  | [], _, _, _, h => by simp at h
  | b :: l, c, j, hj, h => by
    rw [List.idxOf_cons] at hj
    cases e : b == c with
    | true => rw [e] at hj; simp at hj
    | false =>
      rw [e] at hj
      cases j with
      | zero => simpa using e
      | succ j => exact pU (f := l) (by simp at hj; omega) (by simpa using h)
theorem ud {gs : List aO} {k i : Nat} {f : aO} (u : f.length < cP) (D : i < (ix gs (k : Int)).length) : bC (fun s : Int => Z2_L3 gs (k : Int) f (i : Int) s) 0 = some ((f.idxOf (ix (ix gs (k : Int)) (i : Int)) : Nat) : Int) := by
  obtain ⟨c, g⟩ : ∃ c, c = ix (ix gs (k : Int)) (i : Int) := ⟨_, rfl⟩
  rw [← g]
  have m : f.idxOf c ≤ f.length := List.idxOf_le_length
  have a : bt (ix gs (k : Int)) (i : Int) = (c.toNat : Int) := by rw [g]; rfl
  have e : ∀ j : Nat, (bt f (j : Int) != (c.toNat : Int)) = !decide (ix f (j : Int) = c) := by
    intro j
    have : (bt f (j : Int) == (c.toNat : Int)) = decide (ix f (j : Int) = c) := iN
    unfold bne; rw [this]
  refine dN (f := fun s : Int => Z2_L3 gs (k : Int) f (i : Int) s) (fun j => (j : Int)) (f.idxOf c) (fun j h => ?_) ?_ rfl
  · have b : j < f.length := by omega
    simp only [Z2_L3]
    rw [if_pos (fun _ => by omega), if_pos (fun _ => by omega), a, e, cR (by omega), if_pos]
    have : ix f (j : Int) ≠ c := by
      rw [cB b]; exact pU h b
    simp [this]; omega
  · simp only [Z2_L3]
    rw [if_pos (fun z => by simp at z; omega), if_pos (fun _ => by omega), a, e, if_neg]
    by_cases q : f.idxOf c < f.length
    · have : ix f ((f.idxOf c : Nat) : Int) = c := by rw [cB q]; exact List.getElem_idxOf q
      simp [this]
    · simp; omega
theorem j5 {lens : List Int} (h : lens.length = 26) {c a : UInt8} (g : 97 ≤ c.toNat ∧ c.toNat ≤ 122) (b : 97 ≤ a.toNat ∧ a.toNat ≤ 122) (d : Int) : lk (lens.set (c.toNat - 97) d) a = if a = c then d else lk lens a := by
  unfold lk
  have e : ((a.toNat : Int) - 97) = ((a.toNat - 97 : Nat) : Int) := by omega
  rw [e, cB (by simp; omega), List.getElem_set]
  by_cases q : a = c
  · rw [if_pos q, if_pos (by rw [q])]
  · have : a.toNat ≠ c.toNat := fun z => q (UInt8.toNat_inj.1 z)
    rw [if_neg q, if_neg (by omega), cB (by omega)]
theorem nI : ∀ {f : aO} {c : UInt8} {g h : UInt8 → Int} {d : Int}, f.Nodup → c ∈ f → h c = d → (∀ x ∈ f, x ≠ c → h x = g x) → (f.map g).set (f.idxOf c) d = f.map h
  | [], _, _, _, _, _, hm, _, _ => by simp at hm
  | b :: l, c, g, h, d, hn, hm, h1, h2 => by
    rw [List.nodup_cons] at hn
    rw [List.idxOf_cons]
    by_cases q : b = c
    · subst q
      simp only [beq_self_eq_true, cond_true, List.map_cons, List.set_cons_zero, h1]
      congr 1
      apply List.map_congr_left
      intro x a
      exact (h2 x (List.mem_cons_of_mem _ a) (fun z => hn.1 (z ▸ a))).symm
    · have e : (b == c) = false := by simpa using q
      have i : c ∈ l := by
        rcases List.mem_cons.1 hm with z | z
        · exact absurd z.symm q
        · exact z
      rw [e]
      simp only [cond_false, List.map_cons, List.set_cons_succ]
      rw [nI hn.2 i h1 (fun x a j => h2 x (List.mem_cons_of_mem _ a) j), h2 b (List.mem_cons_self ..) q]
structure IS (s : aO × List Int) : Prop where
  l : s.2.length = 26
  n : s.1.Nodup
  c : ∀ c ∈ s.1, 97 ≤ c.toNat ∧ c.toNat ≤ 122
  z : ∀ c : UInt8, 97 ≤ c.toNat → c.toNat ≤ 122 → c ∉ s.1 → lk s.2 c = 0
theorem nJ {s s' : aO × List Int} {c : UInt8} {d : Int} (e : IS s) (i : 97 ≤ c.toNat ∧ c.toNat ≤ 122) (h : ip s c d = some s') : IS s' ∧ s'.1.length ≤ s.1.length + 1 := by
  unfold ip at h
  split at h
  · cases h
  · cases h
    by_cases q : c ∈ s.1
    · simp only [if_pos q]
      refine ⟨⟨by simpa using e.l, e.n, e.c, fun x h1 h2 g => ?_⟩, by omega⟩
      rw [j5 e.l i ⟨h1, h2⟩, if_neg (fun z => g (by rw [z]; exact q))]
      exact e.z x h1 h2 g
    · simp only [if_neg q]
      refine ⟨⟨by simpa using e.l, ?_, ?_, fun x h1 h2 g => ?_⟩, by simp⟩
      · rw [List.nodup_append]
        refine ⟨e.n, by simp, ?_⟩
        intro a m b j
        simp at j; subst j
        exact fun z => q (z ▸ m)
      · intro x u
        rcases List.mem_append.1 u with z | z
        · exact e.c x z
        · simp at z; rw [z]; exact i
      · simp at g
        rw [j5 e.l i ⟨h1, h2⟩, if_neg g.2]
        exact e.z x h1 h2 g.1
theorem mU {f : aO} {g : UInt8 → Int} {p : Nat} (h : p < f.length) : ix (f.map g) (p : Int) = g f[p] := by
  rw [cB (by simpa using h)]; simp
theorem pV {gs : List aO} {dss : List (List Int)} {x j : Nat} {s : aO × List Int} (E : IS s) (M : s.1.length ≤ 100) (hj : j < (ix gs (x : Int)).length) (hl : (ix gs (x : Int)).length = (ix dss (x : Int)).length) (h6 : (ix gs (x : Int)).length ≤ 6) (g : 97 ≤ (ix (ix gs (x : Int)) (j : Int)).toNat ∧ (ix (ix gs (x : Int)) (j : Int)).toNat ≤ 122) :
    (∃ s', ip s (ix (ix gs (x : Int)) (j : Int)) (ix (ix dss (x : Int)) (j : Int)) = some s' ∧ Z2_L2 gs dss (x : Int) s.1 (s.1.map (lk s.2)) (j : Int) = some (.inl (s'.1, s'.1.map (lk s'.2), ((j + 1 : Nat) : Int)))) ∨
    (ip s (ix (ix gs (x : Int)) (j : Int)) (ix (ix dss (x : Int)) (j : Int)) = none ∧ ∃ e, Z2_L2 gs dss (x : Int) s.1 (s.1.map (lk s.2)) (j : Int) = some (.inr (.inl e)) ∧ e.2.2 = false) := by
  obtain ⟨c, m⟩ : ∃ c, c = ix (ix gs (x : Int)) (j : Int) := ⟨_, rfl⟩
  obtain ⟨d, hd⟩ : ∃ d, d = ix (ix dss (x : Int)) (j : Int) := ⟨_, rfl⟩
  rw [← m] at g ⊢
  rw [← hd]
  have I := ud (gs := gs) (k := x) (i := j) (f := s.1) (by unfold cP; omega) hj
  rw [← m] at I
  simp only [Z2_L2]
  rw [if_pos (by simp; omega), I]
  simp only [Option.bind_some]
  have J9 : ∀ (f : aO) (ls : List Int), f.Nodup → c ∈ f → s.1.idxOf c = f.idxOf c → ls = f.map (lk s.2) → (∀ y ∈ f, 97 ≤ y.toNat ∧ y.toNat ≤ 122) →
      Z2_J9 dss (x : Int) (j : Int) ((s.1.idxOf c : Nat) : Int) f ls = if lk s.2 c ≠ 0 ∧ lk s.2 c ≠ d then some (.inr (.inl ([], ls, false))) else some (.inl (f, f.map (lk (s.2.set (c.toNat - 97) d)), ((j + 1 : Nat) : Int))) := by
    intro f ls hn M hi D u
    have F : f.idxOf c < f.length := List.idxOf_lt_length_iff.2 M
    have e : ix ls ((f.idxOf c : Nat) : Int) = lk s.2 c := by
      rw [D, mU F]; congr 1; exact List.getElem_idxOf F
    have a1 : ls.length = f.length := by rw [D]; simp
    unfold Z2_J9
    rw [hi, e, ← hd, if_pos (by omega), if_pos (fun _ => by omega)]
    by_cases q : lk s.2 c ≠ 0 ∧ lk s.2 c ≠ d
    · rw [if_pos q, if_pos (by simpa using q)]
    · rw [if_neg q, if_neg (by simpa using q), if_pos (by omega), cR (by unfold cP; omega), Int.toNat_natCast, D, nI hn M (h := lk (s.2.set (c.toNat - 97) d))]
      · rw [j5 E.l g g, if_pos rfl]
      · intro y U a0
        rw [j5 E.l g (u y U), if_neg a0]
  have R : ∀ f, (if c ∈ s.1 then s.1 else s.1 ++ [c]) = f → (∀ z, z = (if lk s.2 c ≠ 0 ∧ lk s.2 c ≠ d then some (.inr (.inl ([], f.map (lk s.2), false))) else some (.inl (f, f.map (lk (s.2.set (c.toNat - 97) d)), ((j + 1 : Nat) : Int))) : Option ((aO × (List Int) × Int) ⊕ ((aO × (List Int) × Bool) ⊕ (aO × (List Int))))) →
      (∃ s', ip s c d = some s' ∧ z = some (.inl (s'.1, s'.1.map (lk s'.2), ((j + 1 : Nat) : Int)))) ∨ (ip s c d = none ∧ ∃ e, z = some (.inr (.inl e)) ∧ e.2.2 = false)) := by
    intro f I z J
    unfold ip
    by_cases q : lk s.2 c ≠ 0 ∧ lk s.2 c ≠ d
    · rw [if_pos q] at J ⊢
      exact .inr ⟨rfl, _, J, rfl⟩
    · rw [if_neg q] at J ⊢
      rw [I]
      exact .inl ⟨_, rfl, J⟩
  unfold Z2_J8
  by_cases q : c ∈ s.1
  · have F : s.1.idxOf c < s.1.length := List.idxOf_lt_length_iff.2 q
    rw [if_neg (by simp; omega), J9 s.1 _ E.n q rfl rfl E.c]
    exact R s.1 (if_pos q) _ rfl
  · have F : s.1.idxOf c = s.1.length := by
      have : ¬ s.1.idxOf c < s.1.length := fun z => q (List.idxOf_lt_length_iff.1 z)
      have : s.1.idxOf c ≤ s.1.length := List.idxOf_le_length
      omega
    have L : (s.1 ++ [c]).idxOf c = s.1.length := by
      rw [List.idxOf_append, if_neg q]; simp
    have T : (s.1 ++ [c]).Nodup := by
      rw [List.nodup_append]
      refine ⟨E.n, by simp, ?_⟩
      intro a ha b hb
      simp at hb; subst hb
      exact fun z => q (z ▸ ha)
    have u : ∀ y ∈ s.1 ++ [c], 97 ≤ y.toNat ∧ y.toNat ≤ 122 := by
      intro y U
      rcases List.mem_append.1 U with z | z
      · exact E.c y z
      · simp at z; rw [z]; exact g
    have G : s.1.map (lk s.2) ++ [0] = (s.1 ++ [c]).map (lk s.2) := by
      rw [List.map_append]; simp [E.z c g.1 g.2 q]
    rw [if_pos (by rw [F]; simp), cR (by unfold cP; omega), if_pos (by omega), nH hj, ← m, if_pos (by simp; omega), if_pos (by simp; omega), J9 (s.1 ++ [c]) _ T (by simp) (by rw [F, L]) G u, G]
    exact R _ (if_neg q) _ rfl
theorem ue {gs : List aO} {dss : List (List Int)} {x : Nat} (u : LT (ix gs (x : Int))) {m : Nat} (L : m ≤ 90) {s : aO × List Int} (h1 : s.1.length ≤ m) (I : IS s) (E : (ix gs (x : Int)).length = (ix dss (x : Int)).length) :
    (∃ s', iq (ix gs (x : Int)) (ix dss (x : Int)) s = some s' ∧ bC (fun s : aO × List Int × Int => Z2_L2 gs dss (x : Int) s.1 s.2.1 s.2.2) (s.1, s.1.map (lk s.2), 0) = some (.inr (s'.1, s'.1.map (lk s'.2))) ∧ s'.1.length ≤ m + 6 ∧ IS s') ∨
    (iq (ix gs (x : Int)) (ix dss (x : Int)) s = none ∧ ∃ e, bC (fun s : aO × List Int × Int => Z2_L2 gs dss (x : Int) s.1 s.2.1 s.2.2) (s.1, s.1.map (lk s.2), 0) = some (.inl e) ∧ e.2.2 = false) := by
  unfold iq
  rw [if_pos E]
  have G := u.1
  rcases gk (f := fun s : aO × List Int × Int => Z2_L2 gs dss (x : Int) s.1 s.2.1 s.2.2) (fun s k => ip s (ix (ix gs (x : Int)) (k : Int)) (ix (ix dss (x : Int)) (k : Int))) (fun s i => (s.1, s.1.map (lk s.2), i)) (fun s => (s.1, s.1.map (lk s.2))) (fun e => e.2.2 = false) (fun j s => s.1.length ≤ m + j ∧ IS s) (ix gs (x : Int)).length
    (fun j s D g => by
      have h := u.2 _ (bJ D)
      rcases pV g.2 (by have := g.1; omega) D E G h with ⟨s', a, b⟩ | q
      · obtain ⟨F, J⟩ := nJ g.2 h a
        exact .inl ⟨s', a, b, by have := g.1; omega, F⟩
      · exact .inr q)
    (fun s g => by
      simp only [Z2_L2]
      rw [if_neg (by simp)])
    (s := s) ⟨by omega, I⟩ with ⟨s', a, b, a3, a4⟩ | ⟨a, e, b, a3⟩
  · exact .inl ⟨s', a, b, by omega, a4⟩
  · exact .inr ⟨a, e, b, a3⟩
theorem pW {gs : List aO} {dss : List (List Int)} (I : gs.length ≤ 6) (q : ∀ g ∈ gs, LT g) (G : gs.length = dss.length) {s : aO × List Int} (h1 : s.1.length ≤ 6) (D : IS s) :
    (∃ s', jp gs dss s = some s' ∧ bC (fun s : aO × List Int × Int => Z2_L1 gs dss s.1 s.2.1 s.2.2) (s.1, s.1.map (lk s.2), 0) = some (.inr (s'.1, s'.1.map (lk s'.2))) ∧ s'.1.length ≤ 42 ∧ IS s') ∨
    (jp gs dss s = none ∧ ∃ e, bC (fun s : aO × List Int × Int => Z2_L1 gs dss s.1 s.2.1 s.2.2) (s.1, s.1.map (lk s.2), 0) = some (.inl e) ∧ e.2.2 = false) := by
  unfold jp
  rcases gk (f := fun s : aO × List Int × Int => Z2_L1 gs dss s.1 s.2.1 s.2.2) (fun s k => iq (ix gs (k : Int)) (ix dss (k : Int)) s) (fun s i => (s.1, s.1.map (lk s.2), i)) (fun s => (s.1, s.1.map (lk s.2))) (fun e => e.2.2 = false) (fun j s => s.1.length ≤ 6 + 6 * j ∧ IS s) gs.length
    (fun j s u h => by
      obtain ⟨E, F⟩ := h
      simp only [Z2_L1]
      rw [if_pos (by simp; omega), if_pos (by omega), if_pos (by omega)]
      by_cases c : (ix gs (j : Int)).length = (ix dss (j : Int)).length
      · rw [if_neg (by simp; omega)]
        rcases ue (m := 6 + 6 * j) (q _ (bJ u)) (by omega) E F c with ⟨s', a, b, a3, a4⟩ | ⟨a, e, b, a3⟩
        · rw [b]
          refine .inl ⟨s', a, ?_, by omega, a4⟩
          simp only [Option.bind_some, Z2_J10]
          rw [cR (by unfold cP; omega)]
        · rw [b]
          exact .inr ⟨a, e, rfl, a3⟩
      · rw [if_pos (by simp; omega)]
        refine .inr ⟨by unfold iq; rw [if_neg c], _, rfl, rfl⟩)
    (fun s h => by
      simp only [Z2_L1]
      rw [if_neg (by simp)])
    (s := s) ⟨by omega, D⟩ with ⟨s', a, b, a3, a4⟩ | ⟨a, e, b, a3⟩
  · exact .inl ⟨s', a, b, by omega, a4⟩
  · exact .inr ⟨a, e, b, a3⟩
theorem iQ {S : Type} {st : S → Nat → Option S} (I : Nat → S → Prop) {s : S} (a : I 0 s) : ∀ (n : Nat), (∀ j s s', j < n → I j s → st s j = some s' → I (j + 1) s') → ∀ {s' : S}, mT st n s = some s' → I n s'
  | 0, _, s', h => by cases h; exact a
  | n + 1, hs, s', h => by
    rw [mT] at h
    obtain ⟨m, h1, h2⟩ := bd h
    exact hs n m s' (by omega) (iQ I a n (fun j s s' b => hs j s s' (by omega)) h1) h2
structure Ext (s s' : aO × List Int) : Prop where
  i : IS s'
  p : ∃ t, s'.1 = s.1 ++ t
  k : ∀ c : UInt8, 97 ≤ c.toNat → c.toNat ≤ 122 → lk s.2 c ≠ 0 → lk s'.2 c = lk s.2 c
theorem Ext.rfl_ {s : aO × List Int} (h : IS s) : Ext s s := ⟨h, ⟨[], by simp⟩, fun _ _ _ _ => rfl⟩
theorem Ext.trans {a b c : aO × List Int} (h1 : Ext a b) (h2 : Ext b c) : Ext a c := by
  obtain ⟨t, e⟩ := h1.p
  obtain ⟨u, g⟩ := h2.p
  refine ⟨h2.i, ⟨t ++ u, by rw [g, e, List.append_assoc]⟩, fun x a b h => ?_⟩
  have := h1.k x a b h
  rw [h2.k x a b (by rw [this]; exact h), this]
theorem pX {s s' : aO × List Int} {c : UInt8} {d : Int} (j : IS s) (g : 97 ≤ c.toNat ∧ c.toNat ≤ 122) (h : ip s c d = some s') : Ext s s' ∧ c ∈ s'.1 ∧ lk s'.2 c = d ∧ ∀ x ∈ s'.1, x ∈ s.1 ∨ x = c := by
  have D := (nJ j g h).1
  unfold ip at h
  split at h
  · cases h
  · rename_i q
    cases h
    refine ⟨⟨D, ?_, fun x a b u => ?_⟩, ?_, ?_, ?_⟩
    · by_cases m : c ∈ s.1
      · exact ⟨[], by simp [m]⟩
      · exact ⟨[c], by simp [m]⟩
    · show lk (s.2.set _ _) x = _
      rw [j5 j.l g ⟨a, b⟩]
      by_cases e : x = c
      · subst e
        rw [if_pos rfl]
        exact Classical.byContradiction fun z => q ⟨u, fun w => z w.symm⟩
      · rw [if_neg e]
    · by_cases m : c ∈ s.1 <;> simp [m]
    · show lk (s.2.set _ _) c = _
      rw [j5 j.l g g, if_pos rfl]
    · intro x i
      by_cases m : c ∈ s.1
      · simp only [if_pos m] at i; exact .inl i
      · simp only [if_neg m] at i; simpa using i
theorem pY {g : aO} {ds : List Int} {s s' : aO × List Int} (T : IS s) (F : LT g) (L : ∀ d ∈ ds, d ≠ 0) (h : iq g ds s = some s') :
    Ext s s' ∧ g.length = ds.length ∧ (∀ j : Nat, j < g.length → ix g (j : Int) ∈ s'.1 ∧ lk s'.2 (ix g (j : Int)) = ix ds (j : Int)) ∧ ∀ x ∈ s'.1, x ∈ s.1 ∨ x ∈ g := by
  unfold iq at h
  split at h
  · rename_i M
    obtain ⟨a, b, c⟩ := iQ (fun n z => Ext s z ∧ (∀ j : Nat, j < n → ix g (j : Int) ∈ z.1 ∧ lk z.2 (ix g (j : Int)) = ix ds (j : Int)) ∧ ∀ x ∈ z.1, x ∈ s.1 ∨ x ∈ g) ⟨Ext.rfl_ T, fun j G => absurd G (Nat.not_lt_zero _), fun x D => .inl D⟩ g.length
      (fun n z z' I J hz => by
        obtain ⟨a, b, c⟩ := J
        obtain ⟨p, q, r, t⟩ := pX a.i (F.2 _ (bJ I)) hz
        refine ⟨a.trans p, fun j G => ?_, fun x D => ?_⟩
        · by_cases e : j = n
          · subst e; exact ⟨q, r⟩
          · obtain ⟨m, l⟩ := b j (by omega)
            obtain ⟨u, U⟩ := p.p
            have E := F.2 _ (bJ (show j < g.length by omega))
            refine ⟨by rw [U]; exact List.mem_append_left _ m, ?_⟩
            rw [p.k _ E.1 E.2 (by rw [l]; exact L _ (bJ (by omega))), l]
        · rcases t x D with y | y
          · exact c x y
          · rw [y]; exact .inr (bJ I)) h
    exact ⟨a, M, b, c⟩
  · cases h
theorem pZ {gs : List aO} {dss : List (List Int)} {s s' : aO × List Int} (T : IS s) (hl : gs.length = dss.length) (I : ∀ g ∈ gs, LT g) (G : ∀ ds ∈ dss, ∀ d ∈ ds, d ≠ 0) (h : jp gs dss s = some s') :
    Ext s s' ∧ (∀ x : Nat, x < gs.length → (ix gs (x : Int)).length = (ix dss (x : Int)).length ∧ ∀ j : Nat, j < (ix gs (x : Int)).length → ix (ix gs (x : Int)) (j : Int) ∈ s'.1 ∧ lk s'.2 (ix (ix gs (x : Int)) (j : Int)) = ix (ix dss (x : Int)) (j : Int)) ∧ ∀ y ∈ s'.1, y ∈ s.1 ∨ ∃ g ∈ gs, y ∈ g := by
  unfold jp at h
  exact iQ (fun n z => Ext s z ∧ (∀ x : Nat, x < n → (ix gs (x : Int)).length = (ix dss (x : Int)).length ∧ ∀ j : Nat, j < (ix gs (x : Int)).length → ix (ix gs (x : Int)) (j : Int) ∈ z.1 ∧ lk z.2 (ix (ix gs (x : Int)) (j : Int)) = ix (ix dss (x : Int)) (j : Int)) ∧ ∀ y ∈ z.1, y ∈ s.1 ∨ ∃ g ∈ gs, y ∈ g) ⟨Ext.rfl_ T, fun j D => absurd D (Nat.not_lt_zero _), fun x L => .inl L⟩ gs.length
    (fun n z z' J M hz => by
      obtain ⟨a, b, c⟩ := M
      have E := I _ (bJ J)
      obtain ⟨p, q, r, t⟩ := pY a.i E (G _ (bJ (by omega))) hz
      refine ⟨a.trans p, fun x L => ?_, fun y U => ?_⟩
      · by_cases e : x = n
        · subst e; exact ⟨q, r⟩
        · obtain ⟨l, m⟩ := b x (by omega)
          refine ⟨l, fun j D => ?_⟩
          obtain ⟨u, v⟩ := m j D
          obtain ⟨w, hw⟩ := p.p
          have F := (I _ (bJ (show x < gs.length by omega))).2 _ (bJ D)
          refine ⟨by rw [hw]; exact List.mem_append_left _ u, ?_⟩
          rw [p.k _ F.1 F.2 (by rw [v]; exact G _ (bJ (by omega)) _ (bJ (by omega))), v]
      · rcases t y U with w | w
        · exact c y w
        · exact .inr ⟨_, bJ J, w⟩) h
theorem rN {ds : List Int} {k : Int} (U : ds.length ≤ 100) (h1 : ∀ d ∈ ds, 1 ≤ d ∧ d ≤ 4096) (e : 0 ≤ k) (h : k ≤ 65536) : Zh ds k = some (dX ds k) := by
  have a : ∀ j, 1 ≤ pr (ds.drop j) := fun j => dJ fun d g => (h1 d (List.mem_of_mem_drop g)).1
  unfold Zh
  rw [if_pos (by omega)]
  have := dN (f := fun s : Int × List Int × Int => Zh_L1 ds s.1 s.2.1 s.2.2) (r := dX ds k)
    (fun j => (k / pr (ds.drop (ds.length - j)), List.replicate (ds.length - j) 0 ++ dX (ds.drop (ds.length - j)) k, (ds.length : Int) - 1 - j)) ds.length
    (fun j T => by
      obtain ⟨i, F⟩ : ∃ i, i = ds.length - (j + 1) := ⟨_, rfl⟩
      have q : ds.length - j = i + 1 := by omega
      have u : (ds.length : Int) - 1 - (j : Int) = (i : Int) := by omega
      have b : i < ds.length := by omega
      have G := h1 _ (bJ b)
      have I := a (i + 1)
      have g : ds.drop i = ix ds (i : Int) :: ds.drop (i + 1) := by rw [List.drop_eq_getElem_cons b, cB b]
      have m : 0 ≤ k / pr (ds.drop (i + 1)) := Int.ediv_nonneg e (by omega)
      have J : k / pr (ds.drop (i + 1)) ≤ 65536 := Int.le_trans (Int.ediv_le_self _ e) h
      simp only [Zh_L1, q, u, ← F]
      rw [if_pos (by simp), if_pos (by omega), if_pos (by omega), if_pos (by simp; omega)]
      have D : (k / pr (ds.drop (i + 1))).tdiv (ix ds (i : Int)) = k / pr (ds.drop i) := by
        rw [Int.tdiv_eq_ediv_of_nonneg m, g]; exact (pz I G.1).1.symm
      have E : (k / pr (ds.drop (i + 1))).tmod (ix ds (i : Int)) = k / pr (ds.drop (i + 1)) % ix ds (i : Int) := Int.tmod_eq_emod_of_nonneg m
      have L : 0 ≤ k / pr (ds.drop i) := Int.ediv_nonneg e (by have := a i; omega)
      have M : k / pr (ds.drop i) ≤ 65536 := Int.le_trans (Int.ediv_le_self _ e) h
      rw [D, E, aX (by omega) (by omega), aX (by omega) (by omega)]
      congr 4
      · rw [g, List.set_append_left _ _ (by simp), List.replicate_succ', List.set_append_right _ _ (by simp)]
        simp [dX]
      · omega)
    (by
      simp only [Zh_L1, Nat.sub_self, List.drop_zero, List.replicate_zero, List.nil_append]
      rw [if_neg (by simp; omega)])
    (s := (k, List.replicate (ds.length : Int).toNat 0, aG ((ds.length : Int) - 1))) (by
      rw [aX (by omega) (by omega)]
      simp [pr, dX])
  rw [this]
  rfl
def wk (ls : List Int) (s : Int) (j : Nat) : Option Int := if s * ix ls (j : Int) > 65536 then none else some (s * ix ls (j : Int))
theorem nK {ls : List Int} {j : Nat} (h : j < ls.length) : pr (ls.take (j + 1)) = pr (ls.take j) * ix ls (j : Int) := by
  rw [List.take_succ_eq_append_getElem h, gr, cB h]; simp [pr]
theorem xL {ls : List Int} (h : ∀ d ∈ ls, 1 ≤ d) : ∀ n, n ≤ ls.length → mT (wk ls) n 1 = if pr (ls.take n) ≤ 65536 then some (pr (ls.take n)) else none
  | 0, _ => by simp [mT, pr]
  | n + 1, hn => by
    have i : 1 ≤ pr (ls.take n) := dJ fun d g => h d (List.mem_of_mem_take g)
    have g := h _ (bJ (show n < ls.length by omega))
    rw [mT, xL h n (by omega), nK (by omega)]
    by_cases c : pr (ls.take n) ≤ 65536
    · rw [if_pos c]
      simp only [Option.bind_some, wk]
      by_cases e : pr (ls.take n) * ix ls (n : Int) ≤ 65536
      · rw [if_neg (by omega), if_pos e]
      · rw [if_pos (by omega), if_neg e]
    · rw [if_neg c, if_neg]
      · rfl
      · have := fZ (a := pr (ls.take n)) (b := ix ls (n : Int)) (by omega) g
        omega
theorem uf {ls : List Int} (E : ls.length ≤ 100) (h : ∀ d ∈ ls, 1 ≤ d ∧ d ≤ 4096) :
    (pr ls ≤ 65536 ∧ bC (fun s : Int × Int => Z2_L4 ls s.1 s.2) (1, 0) = some (.inr ())) ∨
    (¬ pr ls ≤ 65536 ∧ ∃ e, bC (fun s : Int × Int => Z2_L4 ls s.1 s.2) (1, 0) = some (.inl e) ∧ e.2.2 = false) := by
  have g := xL (fun d q => (h d q).1) ls.length (Nat.le_refl _)
  rw [List.take_length] at g
  rcases gk (f := fun s : Int × Int => Z2_L4 ls s.1 s.2) (wk ls) (fun s i => (s, i)) (fun _ => ()) (fun e => e.2.2 = false) (fun j s => 1 ≤ s ∧ s ≤ 65536) ls.length
    (fun j s u m => by
      have D := h _ (bJ u)
      simp only [Z2_L4]
      rw [if_pos (by simp; omega), if_pos (by omega), fO (by omega) (by omega) (by omega) (by omega), cR (by unfold cP; omega)]
      unfold wk
      by_cases c : s * ix ls (j : Int) > 65536
      · rw [if_pos c, if_pos (decide_eq_true c)]
        exact .inr ⟨rfl, _, rfl, rfl⟩
      · rw [if_neg c, if_neg (by simpa using c)]
        have := fZ (a := s) (b := ix ls (j : Int)) (by omega) D.1
        exact .inl ⟨_, rfl, rfl, by omega, by omega⟩)
    (fun s m => by simp only [Z2_L4]; rw [if_neg (by simp)])
    (s := 1) ⟨by omega, by omega⟩ with ⟨s', a1, a2, a3⟩ | ⟨a1, e, a2, a3⟩
  · rw [g] at a1
    refine .inl ⟨?_, a2⟩
    split at a1
    · assumption
    · cases a1
  · rw [g] at a1
    refine .inr ⟨?_, e, a2, a3⟩
    split at a1
    · cases a1
    · assumption
theorem ug {f : aO} {lens : List Int} (M : f.length ≤ 100) (G : ∀ c ∈ f, 97 ≤ c.toNat ∧ c.toNat ≤ 122) (h : ∀ d ∈ f.map (lk lens), 1 ≤ d ∧ d ≤ 4096) :
    (pr (f.map (lk lens)) ≤ 65536 ∧ bC (fun s : List Int × Int × Int => Z1_L3 f lens s.1 s.2.1 s.2.2) ([], 1, 0) = some (.inr (f.map (lk lens)))) ∨
    (¬ pr (f.map (lk lens)) ≤ 65536 ∧ ∃ e, bC (fun s : List Int × Int × Int => Z1_L3 f lens s.1 s.2.1 s.2.2) ([], 1, 0) = some (.inl e) ∧ e.2 = false) := by
  obtain ⟨ls, g⟩ : ∃ ls, ls = f.map (lk lens) := ⟨_, rfl⟩
  rw [← g] at h ⊢
  have I : ls.length = f.length := by rw [g]; simp
  have u := xL (fun d F => (h d F).1) ls.length (Nat.le_refl _)
  rw [List.take_length] at u
  rcases gk (f := fun s : List Int × Int × Int => Z1_L3 f lens s.1 s.2.1 s.2.2) (wk ls) (fun s i => (ls.take i.toNat, s, i)) (fun _ => ls) (fun e => e.2 = false) (fun j s => 1 ≤ s ∧ s ≤ 65536) ls.length
    (fun j s q D => by
      have J := h _ (bJ q)
      have E := G _ (bJ (show j < f.length by omega))
      have L : ix lens (((ix f (j : Int)).toNat : Int) - 97) = ix ls (j : Int) := by
        rw [g, mU (by omega), cB (xs := f) (by omega)]; rfl
      have m : bt f (j : Int) = ((ix f (j : Int)).toNat : Int) := rfl
      simp only [Z1_L3]
      rw [if_pos (by simp; omega), if_pos (by omega), m, pT E, if_pos (by omega), L, if_pos (by simp; omega), fO (by omega) (by omega) (by omega) (by omega), cR (by unfold cP; omega)]
      unfold wk
      by_cases c : s * ix ls (j : Int) > 65536
      · rw [if_pos c, if_pos (decide_eq_true c)]
        exact .inr ⟨rfl, _, rfl, rfl⟩
      · rw [if_neg c, if_neg (by simpa using c)]
        have := fZ (a := s) (b := ix ls (j : Int)) (by omega) J.1
        refine .inl ⟨_, rfl, ?_, by omega, by omega⟩
        rw [Int.toNat_natCast, Int.toNat_natCast, List.take_succ_eq_append_getElem q, cB q])
    (fun s D => by simp only [Z1_L3]; rw [if_neg (by simp; omega)]; simp)
    (s := 1) ⟨by omega, by omega⟩ with ⟨s', a1, a2, a3⟩ | ⟨a1, e, a2, a3⟩
  · rw [u] at a1
    refine .inl ⟨?_, a2⟩
    split at a1
    · assumption
    · cases a1
  · rw [u] at a1
    refine .inr ⟨?_, e, a2, a3⟩
    split at a1
    · cases a1
    · assumption
def m9 (gs : List aO) (o : aO) (dss : List (List Int)) (s : aO × List Int) : Prop := jp gs dss (o, List.replicate 26 0) = some s ∧ pr (s.1.map (lk s.2)) ≤ 65536
theorem mV {o : aO} (b : o.Nodup) (a : ∀ c ∈ o, 97 ≤ c.toNat ∧ c.toNat ≤ 122) : IS (o, List.replicate 26 0) := by
  refine ⟨rfl, b, a, fun c h1 h2 _ => ?_⟩
  unfold lk
  have e : ((c.toNat : Int) - 97) = ((c.toNat - 97 : Nat) : Int) := by omega
  rw [e, cB (by rw [List.length_replicate]; omega)]
  exact List.getElem_replicate _
theorem rO {o : aO} (g : ∀ c ∈ o, 97 ≤ c.toNat ∧ c.toNat ≤ 122) : List.replicate (o.length : Int).toNat (0 : Int) = o.map (lk (List.replicate 26 0)) := by
  rw [Int.toNat_natCast]
  symm
  rw [List.eq_replicate_iff]
  refine ⟨by simp, fun b a => ?_⟩
  obtain ⟨c, h, rfl⟩ := List.mem_map.1 a
  obtain ⟨h1, h2⟩ := g c h
  unfold lk
  have e : ((c.toNat : Int) - 97) = ((c.toNat - 97 : Nat) : Int) := by omega
  rw [e, cB (by rw [List.length_replicate]; omega)]
  exact List.getElem_replicate _
theorem kd {gs : List aO} {o : aO} (h : ∀ i ∈ List.range o.length, OL gs o i) : o.Nodup := by
  refine List.pairwise_iff_getElem.2 fun i j g a b e => ?_
  have := (h j (List.mem_range.2 a)).2
  rw [cB a] at this
  refine this ?_
  rw [← e, List.mem_take_iff_getElem]
  exact ⟨i, by omega, rfl⟩
structure Laid (gs : List aO) (o : aO) (dss : List (List Int)) (s : aO × List Int) : Prop where
  i : IS s
  l : s.1.length ≤ 42
  p : ∃ t, s.1 = o ++ t
  g : ∀ x : Nat, x < gs.length → (ix gs (x : Int)).length = (ix dss (x : Int)).length ∧ ∀ j : Nat, j < (ix gs (x : Int)).length → ix (ix gs (x : Int)) (j : Int) ∈ s.1 ∧ lk s.2 (ix (ix gs (x : Int)) (j : Int)) = ix (ix dss (x : Int)) (j : Int)
  d : ∀ d ∈ s.1.map (lk s.2), 1 ≤ d ∧ d ≤ 4096
theorem jF {gs : List aO} {o : aO} {dss : List (List Int)} {s : aO × List Int} (hp : PO gs o) (U : gs.length = dss.length) (M : ∀ ds ∈ dss, eL ds) (h : jp gs dss (o, List.replicate 26 0) = some s) : Laid gs o dss s := by
  obtain ⟨p1, p2, p3, p4⟩ := hp
  have hs := mV (kd p4) p2.2
  obtain ⟨a, b, c⟩ := pZ hs U p3 (fun ds I d F => by have := (M ds I).2.1 d F; omega) h
  have u : s.1.length ≤ 42 := by
    rcases pW p1 p3 U (s := (o, List.replicate 26 0)) p2.1 hs with ⟨s', D, _, q3, _⟩ | ⟨D, _⟩
    · rw [h] at D; cases D; exact q3
    · rw [h] at D; cases D
  refine ⟨a.i, u, a.p, b, fun d G => ?_⟩
  obtain ⟨y, hy, rfl⟩ := List.mem_map.1 G
  have : ∃ g ∈ gs, y ∈ g := by
    rcases c y hy with q | q
    · obtain ⟨k, T, e⟩ := List.getElem_of_mem q
      have := (p4 k (List.mem_range.2 T)).1
      rw [cB T, e] at this
      exact this
    · exact q
  obtain ⟨g, hg, L⟩ := this
  obtain ⟨x, hx, rfl⟩ := List.getElem_of_mem hg
  obtain ⟨j, J, rfl⟩ := List.getElem_of_mem L
  have E := b x hx
  rw [cB hx] at E
  have m := (E.2 j J).2
  rw [cB J] at m
  rw [m]
  exact (M _ (bJ (show x < dss.length by omega))).2.mem (bJ (by rw [← E.1]; exact J))
theorem oj {gs : List aO} {o : aO} {dss : List (List Int)} (F : PO gs o) (m : gs.length = dss.length) (E : ∀ ds ∈ dss, eL ds) :
    (∃ s, m9 gs o dss s ∧ Z2 gs o dss = some (s.1, s.1.map (lk s.2), true)) ∨ ((∀ s, ¬ m9 gs o dss s) ∧ ∃ e, Z2 gs o dss = some e ∧ e.2.2 = false) := by
  obtain ⟨p1, g, q, u⟩ := F
  have G := mV (kd u) g.2
  have J := g.1
  unfold Z2
  rw [if_pos (by omega), rO g.2]
  rcases pW p1 q m (s := (o, List.replicate 26 0)) g.1 G with ⟨s, a, b, a3, a4⟩ | ⟨a, e, b, a3⟩
  · have D := jF ⟨p1, g, q, u⟩ m E a
    simp only at b
    rw [b]
    simp only [Option.bind_some, Z2_J11]
    rcases uf (ls := s.1.map (lk s.2)) (by simp; omega) D.d with ⟨i, j⟩ | ⟨i, e, j, I⟩
    · rw [j]
      exact .inl ⟨s, ⟨a, i⟩, rfl⟩
    · rw [j]
      refine .inr ⟨fun s' h => ?_, e, rfl, I⟩
      have := h.1
      rw [a] at this; cases this
      exact i h.2
  · simp only at b
    rw [b]
    refine .inr ⟨fun s' h => ?_, e, rfl, a3⟩
    have := h.1
    rw [a] at this; cases this
theorem qa {g f : aO} {vs : List Int} (T : g.length ≤ 6) (M : f.length ≤ 42) (U : vs.length = f.length) (L : f.Nodup) (J : ∀ c ∈ g, c ∈ f) : Zf g f vs = some (g.map fun c => ix vs ((f.idxOf c : Nat) : Int)) := by
  unfold Zf
  rw [dN (f := fun s : List Int × Int => Zf_L1 g f vs s.1 s.2) (r := g.map fun c => ix vs ((f.idxOf c : Nat) : Int)) (fun i => ((g.take i).map fun c => ix vs ((f.idxOf c : Nat) : Int), (i : Int))) g.length
    (fun i E => by
      obtain ⟨c, m⟩ : ∃ c, c = g[i] := ⟨_, rfl⟩
      have u : ix g (i : Int) = c := by rw [cB E, m]
      have D : c ∈ f := J c (by rw [m]; exact List.getElem_mem E)
      have G : f.idxOf c < f.length := List.idxOf_lt_length_iff.2 D
      obtain ⟨h, b⟩ : ∃ h, h = (g.take i).map fun c => ix vs ((f.idxOf c : Nat) : Int) := ⟨_, rfl⟩
      have I : h.length ≤ 6 := by rw [b]; simp; omega
      simp only [Zf_L1]
      rw [if_pos (by simp; omega), ← b]
      rw [dN (f := fun s : List Int × Int => Zf_L2 g f vs (i : Int) s.1 s.2) (r := h ++ [ix vs ((f.idxOf c : Nat) : Int)]) (fun k => (h ++ (if f.idxOf c < k then [ix vs ((f.idxOf c : Nat) : Int)] else []), (k : Int))) f.length
        (fun k F => by
          have j : (bt f (k : Int) == bt g (i : Int)) = decide (f[k] = c) := by
            rw [show bt f (k : Int) = ((ix f (k : Int)).toNat : Int) from rfl, show bt g (i : Int) = ((ix g (i : Int)).toNat : Int) from rfl, iN, u, cB F]
          have a : f[k] = c ↔ f.idxOf c = k := by
            constructor
            · intro e
              rw [← e]
              exact L.idxOf_getElem k F
            · intro e; subst e; exact List.getElem_idxOf G
          simp only [Zf_L2, Zf_J5]
          rw [if_pos (by simp; omega), if_pos (by omega), if_pos (by omega), j, cR (by unfold cP; omega)]
          by_cases q : f.idxOf c = k
          · rw [if_pos (decide_eq_true (a.2 q)), if_pos (by omega), if_neg (show ¬ f.idxOf c < k by omega), if_pos (show f.idxOf c < k + 1 by omega), List.append_nil, if_pos (by simp; omega), q]
          · rw [if_neg (by simpa using fun z => q (a.1 z))]
            by_cases r : f.idxOf c < k
            · rw [if_pos r, if_pos (by omega)]
            · rw [if_neg r, if_neg (by omega)])
        (by simp only [Zf_L2]; rw [if_neg (by simp), if_pos G])
        (s := (h, 0)) (by simp)]
      simp only [Option.bind_some, Zf_J6]
      rw [cR (by unfold cP; omega), List.take_succ_eq_append_getElem E, List.map_append, ← b, ← m]
      rfl)
    (by simp only [Zf_L1]; rw [if_neg (by simp), List.take_length])
    (s := ([], 0)) rfl]
  rfl
theorem wx {ds is : List Int} (h : IV ds is) {j : Nat} (a : j < ds.length) : 0 ≤ ix is (j : Int) ∧ ix is (j : Int) < ix ds (j : Int) := by
  induction ds generalizing is j with
  | nil => simp at a
  | cons d ds ih => cases is with
    | nil => exact h.elim
    | cons i is =>
      cases j with
      | zero => simpa [ix] using h.1
      | succ j =>
        have := ih h.2 (j := j) (by simpa using a)
        simpa [ix] using this
theorem sQ {ds is : List Int} (a : is.length = ds.length) (h : ∀ j : Nat, j < ds.length → 0 ≤ ix is (j : Int) ∧ ix is (j : Int) < ix ds (j : Int)) : IV ds is := by
  induction ds generalizing is with
  | nil => cases is with
    | nil => trivial
    | cons => simp at a
  | cons d ds ih => cases is with
    | nil => simp at a
    | cons i is =>
      refine ⟨by simpa [ix] using h 0 (by simp), ih (by simpa using a) fun j b => ?_⟩
      have := h (j + 1) (by simpa using b)
      simpa [ix] using this
theorem ke {ls : List Int} (h : ∀ d ∈ ls, 1 ≤ d) (k : Nat) : 1 ≤ pr (ls.take k) ∧ pr (ls.take k) ≤ pr ls := by
  have h2 : 1 ≤ pr (ls.drop k) := dJ fun d a => h d (List.mem_of_mem_drop a)
  have b : 1 ≤ pr (ls.take k) := dJ fun d a => h d (List.mem_of_mem_take a)
  exact ⟨b, by rw [gt ls k]; exact fZ (by omega) h2⟩
def li (f : aO) (dss : List (List Int)) (s : aO × List Int) : Prop := (parts f).2.2 = true ∧ (parts f).1.length = dss.length ∧ m9 (parts f).1 (parts f).2.1 dss s ∧ eL ((s.1.map (lk s.2)).take (parts f).2.1.length)
theorem kf {f : aO} {ts : List Tensor} (hb : f.length ≤ 1048576) (ht : ∀ t ∈ ts, TT t) (hn : ts.length ≤ 6) :
    (∃ s, li f (ts.map Tensor.Dims) s ∧ ∃ d, Z4 f ts = some ⟨(s.1.map (lk s.2)).take (parts f).2.1.length, d⟩ ∧ TOk ((s.1.map (lk s.2)).take (parts f).2.1.length) d) ∨ ((¬ ∃ s, li f (ts.map Tensor.Dims) s) ∧ Z4 f ts = some ⟨[], []⟩) := by
  obtain ⟨dss, D⟩ : ∃ dss, dss = ts.map Tensor.Dims := ⟨_, rfl⟩
  have hd : ∀ ds ∈ dss, eL ds := by
    intro ds h
    rw [D] at h
    obtain ⟨t, h1, rfl⟩ := List.mem_map.1 h
    exact (ht t h1).d
  have aj : dss.length = ts.length := by rw [D]; simp
  rw [← D]
  unfold li
  obtain ⟨b, a0⟩ : ∃ b, b = parts f := ⟨_, rfl⟩
  have aa : b.2.2 = true → PO b.1 b.2.1 := by
    rw [a0]; unfold parts
    split
    · intro h; cases h
    · split
      · intro _; assumption
      · intro h; cases h
  unfold Z4
  rw [nG hb, ← a0]
  simp only [Option.bind_some]
  by_cases c1 : b.2.2 = true ∧ b.1.length = dss.length
  · obtain ⟨c1, c2⟩ := c1
    rw [if_neg (by simp [c1]; omega)]
    have hP := aa c1
    have a7 := hP
    obtain ⟨p1, p2, p3, p4⟩ := a7
    have L1 : bC (fun s : List (List Int) × Int => Z4_L1 ts s.1 s.2) ([], 0) = some (Sum.inr dss) := by
      refine dN (f := fun s : List (List Int) × Int => Z4_L1 ts s.1 s.2) (fun k => ((ts.take k).map Tensor.Dims, (k : Int))) ts.length (fun k G => ?_) ?_ rfl
      · simp only [Z4_L1]
        rw [if_pos (by simp; omega), if_pos (by omega), m8 (ht _ (bJ G))]
        simp only [Option.bind_some]
        rw [if_neg (by simp), if_pos (by simp; omega), cR (by unfold cP; omega), List.take_succ_eq_append_getElem G, List.map_append, cB G]
        rfl
      · simp only [Z4_L1]
        rw [if_neg (by simp), List.take_length, ← D]
    rw [L1]
    simp only [Option.bind_some, Z4_J1]
    rcases oj hP c2 hd with ⟨s, h1, h2⟩ | ⟨h1, e, h2, h3⟩
    · rw [h2]
      simp only [Option.bind_some]
      have U := jF hP c2 hd h1.1
      obtain ⟨ls, E⟩ : ∃ ls, ls = s.1.map (lk s.2) := ⟨_, rfl⟩
      have a5 : ls.length = s.1.length := by rw [E]; simp
      have a4 := U.l
      have J := U.d
      obtain ⟨t, a6⟩ := U.p
      have ah : b.2.1.length ≤ ls.length := by rw [a5, a6]; simp
      have ab := h1.2
      rw [← E] at ab J ⊢
      have I : ∀ d ∈ ls, 1 ≤ d := fun d h => (J d h).1
      rw [if_pos (fun _ => by omega)]
      simp only [cT, Bool.not_true, Bool.not_false, cond_true, Bool.false_or]
      rw [lc, gT (by simp only [List.length_take]; unfold cP; omega)]
      simp only [Option.bind_some]
      obtain ⟨a, F⟩ : ∃ a, a = ls.take b.2.1.length := ⟨_, rfl⟩
      rw [← F]
      by_cases c3 : eL a
      · rw [decide_eq_true c3, if_neg (by simp), if_pos (by omega), pA c3]
        simp only [Option.bind_some]
        refine .inl ⟨s, ⟨c1, c2, h1, by rw [← E, ← F]; exact c3⟩, ?_⟩
        rw [← E, ← F]
        have L2 : bC (fun z : Int × Int => Z4_L2 (s.1, ls, true) z.1 z.2) (1, 0) = some (pr ls) := by
          refine dN (f := fun z : Int × Int => Z4_L2 (s.1, ls, true) z.1 z.2) (fun k => (pr (ls.take k), (k : Int))) ls.length (fun k G => ?_) ?_ (by simp [pr])
          · have a1 := ke I k
            have a2 := ke I (k + 1)
            have a3 := J _ (bJ G)
            simp only [Z4_L2]
            rw [if_pos (by simp; omega), if_pos (by omega), fO (by omega) (by omega) (by omega) (by omega), cR (by unfold cP; omega), nK G]
          · simp only [Z4_L2]
            rw [if_neg (by simp), List.take_length]
        rw [L2]
        simp only [Option.bind_some, Z4_J2]
        have ai := dJ I
        have ak := c3.2.pos
        obtain ⟨r, q1, q2⟩ := nz (f := fun z : List Int × Int => Z4_L3 ts b (s.1, ls, true) ⟨a, List.replicate (pr a).toNat 0⟩ (pr ls) z.1 z.2) (Post := fun r => RG (pr a).toNat r) (pr a).toNat (pr ls).toNat
          (fun j hj x hx => by
            have al : (j : Int) < pr ls := by omega
            simp only [Z4_L3]
            rw [if_pos (by simp; omega), rN (by omega) J (by omega) (by omega)]
            simp only [Option.bind_some]
            have hI := f7 I (j : Int)
            obtain ⟨vs, ac⟩ : ∃ vs, vs = dX ls (j : Int) := ⟨_, rfl⟩
            rw [← ac] at hI ⊢
            have an := hI.len
            obtain ⟨p, g1, _⟩ := ka (f := fun z : Int × Int => Z4_L4 ts b (s.1, ls, true) vs z.1 z.2) (fun k z => z.2 = (k : Int)) b.1.length (Post := fun _ => True)
              (fun k z G hz => by
                obtain ⟨y, i⟩ := z
                dsimp only at hz; subst hz
                simp only [Z4_L4]
                have M : k < ts.length := by omega
                obtain ⟨e1, e2⟩ := U.g k G
                have a8 : ix dss (k : Int) = (ix ts (k : Int)).Dims := by rw [D, cB (by simpa using M), cB M]; simp
                have a9 := p3 _ (bJ G)
                rw [if_pos (by simp; omega), if_pos (by omega), if_pos (by omega), qa a9.1 a4 (by omega) U.i.n (fun c hc => by
                  obtain ⟨m, hm, rfl⟩ := List.getElem_of_mem hc
                  have := (e2 m hm).1
                  rwa [cB hm] at this)]
                simp only [Option.bind_some]
                obtain ⟨w, w1, _⟩ := pB (ht _ (bJ M)) (is := (ix b.1 (k : Int)).map fun c => ix vs ((s.1.idxOf c : Nat) : Int)) (by
                  rw [← a8]
                  refine sQ (by simp [e1]) fun m hm => ?_
                  have T : m < (ix b.1 (k : Int)).length := by omega
                  obtain ⟨f1, f2⟩ := e2 m T
                  have hp : s.1.idxOf (ix (ix b.1 (k : Int)) (m : Int)) < s.1.length := List.idxOf_lt_length_iff.2 f1
                  have hv := wx hI (j := s.1.idxOf (ix (ix b.1 (k : Int)) (m : Int))) (by omega)
                  have ae : ix ((ix b.1 (k : Int)).map fun c => ix vs ((s.1.idxOf c : Nat) : Int)) (m : Int) = ix vs ((s.1.idxOf (ix (ix b.1 (k : Int)) (m : Int)) : Nat) : Int) := by
                    rw [cB (by simpa using T), List.getElem_map, cB (xs := ix b.1 (k : Int)) T]
                  have ag : ix ls ((s.1.idxOf (ix (ix b.1 (k : Int)) (m : Int)) : Nat) : Int) = ix (ix dss (k : Int)) (m : Int) := by
                    rw [E, mU hp, List.getElem_idxOf hp, f2]
                  rw [ae, ← ag]
                  exact hv)
                rw [w1]
                simp only [Option.bind_some]
                obtain ⟨u, u1, _⟩ := iM y w
                rw [u1]
                exact ⟨_, rfl, by rw [cR (by unfold cP; omega)]⟩)
              (fun z hz => by
                obtain ⟨y, i⟩ := z
                dsimp only at hz; subst hz
                simp only [Z4_L4]
                rw [if_neg (by simp)]
                exact ⟨_, rfl, trivial⟩)
              (s := (1, 0)) rfl
            rw [g1]
            simp only [Option.bind_some, Z4_J4]
            have L := rE hI b.2.1.length
            rw [← F] at L
            have am := fp c3.2.1 L
            rw [if_pos (by omega), lc, kX c3 L]
            simp only [Option.bind_some, List.length_replicate]
            rw [if_pos (by omega)]
            obtain ⟨u, u1, u2⟩ := pL (ix x (fA a (vs.take b.2.1.length))) p
            rw [u1]
            exact ⟨_, by rw [cR (by unfold cP; omega)]; rfl, hx.set u2 _⟩)
          (fun x hx => by
            simp only [Z4_L3]
            rw [if_neg (by simp; omega)]
            exact ⟨_, rfl, hx⟩)
          (x := List.replicate (pr a).toNat 0) (RG.rep _)
        rw [q1]
        exact ⟨r, rfl, la c3 q2⟩
      · rw [decide_eq_false c3, if_pos (by simp)]
        refine .inr ⟨?_, rfl⟩
        rintro ⟨s', _, _, g1, g2⟩
        have := g1.1
        rw [h1.1] at this; cases this
        rw [← E, ← F] at g2
        exact c3 g2
    · rw [h2]
      obtain ⟨e1, e2, e3⟩ := e
      dsimp only at h3; subst h3
      simp only [Option.bind_some]
      rw [if_pos (fun z => by simp at z)]
      simp only [cT, Bool.not_true, Bool.not_false, cond_false, Option.bind_some, Bool.true_or, if_true]
      exact .inr ⟨fun ⟨s, _, _, z, _⟩ => h1 s z, trivial⟩
  · rw [if_pos]
    · exact .inr ⟨fun ⟨s, z1, z2, _⟩ => c1 ⟨z1, z2⟩, rfl⟩
    · cases q : b.2.2
      · rfl
      · have : b.1.length ≠ dss.length := fun z => c1 ⟨q, z⟩
        simp; omega
theorem nL (ds : List Int) (h : ∀ d ∈ ds, 1 ≤ d) (k m : Int) : dX ds (k + m * pr ds) = dX ds k := by
  induction ds generalizing m with
  | nil => rfl
  | cons d ds ih =>
    have g := dJ (ds := ds) (fun x a => h x (by simp [a]))
    have b := h d (by simp)
    show (k + m * (d * pr ds)) / pr ds % d :: dX ds (k + m * (d * pr ds)) = k / pr ds % d :: dX ds k
    have e : k + m * (d * pr ds) = k + (m * d) * pr ds := by rw [Int.mul_assoc]
    rw [e, ih (fun x a => h x (by simp [a])), Int.add_mul_ediv_right _ _ (by omega), Int.add_mul_emod_self_right]
theorem lj {ds is : List Int} (h : ∀ d ∈ ds, 1 ≤ d) (a : IV ds is) : dX ds (fA ds is) = is := by
  induction ds generalizing is with
  | nil => cases is with
    | nil => rfl
    | cons => exact a.elim
  | cons d ds ih => cases is with
    | nil => exact a.elim
    | cons i is =>
      have h2 : ∀ x ∈ ds, 1 ≤ x := fun x g => h x (by simp [g])
      have j := dJ h2
      have b := fp h2 a.2
      show (i * pr ds + fA ds is) / pr ds % d :: dX ds (i * pr ds + fA ds is) = i :: is
      have e : (i * pr ds + fA ds is) / pr ds = i := by
        rw [Int.add_comm, Int.add_mul_ediv_right _ _ (by omega), Int.ediv_eq_zero_of_lt b.1 b.2, Int.zero_add]
      rw [e, Int.emod_eq_of_lt a.1.1 a.1.2, Int.add_comm, nL ds h2, ih h2 a.2]
def rP (ds : List Int) (f : List Int → Int) : List Int := (List.range (pr ds).toNat).map fun k : Nat => f (dX ds (k : Int))
theorem ll (ds : List Int) (f : List Int → Int) : (rP ds f).length = (pr ds).toNat := by simp [rP]
theorem qb {ds x : List Int} (h : ∀ d ∈ ds, 1 ≤ d) (g : (x.length : Int) = pr ds) {f : List Int → Int} (a : ∀ is, IV ds is → ix x (fA ds is) = f is) : x = rP ds f := by
  refine List.ext_getElem (by rw [ll]; omega) fun k h1 h2 => ?_
  have b : k < (pr ds).toNat := by rw [ll] at h2; exact h2
  have e := a _ (f7 h (k : Int))
  rw [kz h (by omega) (by omega), cB h1] at e
  rw [e]
  simp [rP]
end Go.Proofs.YthfhllekobdelaaGreatDoor
