import Derived.Test.YtkfgngcfcoplpaaGuF
import Derived.Test.YtkfgngcfcoplpaaPL1
set_option linter.unusedVariables false
set_option linter.unusedSimpArgs false
namespace Go.Proofs.Ytkfgngcfcoplpaa
open Go Go.Pg
def lim : Nat := 9223372036854775807
def szR (n : Nat) (left : Int) : Int := if left < (n : Int) then -1 else left - n
def sumN {α : Type} (n : α → Nat) (xs : List α) : Nat := xs.length + (xs.map n).sum
theorem szR_add {a b : Nat} {left : Int} (h0 : 0 ≤ left) : szR (a + b) left = if szR a left < 0 then -1 else szR b (szR a left) := by
  unfold szR
  (repeat' split) <;> omega
theorem szR_le {a : Nat} {left : Int} (h0 : 0 ≤ left) (h : ¬ szR a left < 0) : 0 ≤ szR a left ∧ szR a left ≤ left ∧ szR a left = left - a := by
  unfold szR at *
  split at h <;> rename_i q
  · exact absurd (by decide) h
  · rw [if_neg q]; omega
theorem sz_flat {n : Nat} {left : Int} (hn : n ≤ lim) (h0 : 0 ≤ left) (h1 : left ≤ 1048576) :
    (if (decide ((w64 (left - (n : Int))) < (0 : Int))) = true then (some (-1 : Int)) else (some (w64 (left - (n : Int))))) = some (szR n left) := by
  unfold lim at hn
  rw [w64_id (by omega) (by omega)]
  unfold szR
  by_cases h : left < (n : Int)
  · rw [if_pos (by simp; omega), if_pos h]
  · rw [if_neg (by simp; omega), if_neg h]
theorem sz_loop {α : Type} [Inhabited α] (xs : List α) (n : α → Nat) (hx : xs.length < big) (g : α → Int → Option Int) (f : Int × Int → Option ((Int × Int) ⊕ (Int ⊕ Int)))
    (hg : ∀ x ∈ xs, ∀ left : Int, 0 ≤ left → left ≤ 1048576 → g x left = some (szR (n x) left))
    (hf : ∀ left i, f (left, i) = if (decide (i < (xs.length : Int))) = true then (if (0 ≤ i ∧ i < (xs.length : Int)) then (g (ix xs i) left).bind fun (r : Int) => if (decide (r < (0 : Int))) = true then (some (.inr (.inl (-1 : Int)))) else (some (.inl (r, (w64 (i + (1 : Int)))))) else none) else (some (.inr (.inr left))))
    (left : Int) (h0 : 0 ≤ left) (h1 : left ≤ 1048576) :
    ((loopM f (left, 0)).bind fun e => match e with | .inl e => some e | .inr e => some e) = some (szR ((xs.map n).sum) left) := by
  rw [loop_goI (S := Int) xs (fun _ s => 0 ≤ s ∧ s ≤ 1048576) f (fun s i => (s, i)) (fun s _ x => if szR (n x) s < 0 then .inr (.inl (-1)) else .inl (szR (n x) s)) (fun s => .inr s) ?_ ?_ ?_ left ⟨h0, h1⟩]
  · rw [bind_some']
    clear hf hx
    generalize 0 = k
    induction xs generalizing left k with
    | nil => show some left = some (szR 0 left); unfold szR; rw [if_neg (by omega)]; congr 1; simp
    | cons x xs ih =>
      unfold goI
      rw [List.map_cons, List.sum_cons, szR_add h0]
      by_cases h : szR (n x) left < 0
      · simp only [h, if_true]
      · obtain ⟨q1, q2, _⟩ := szR_le h0 h
        simp only [h, if_false]
        exact ih (fun y hy => hg y (by simp [hy])) _ q1 (by omega) _
  · rintro s k ⟨i0, i1⟩ hk
    rw [hf, if_pos (by simpa using hk), if_pos (by omega), hg _ (ix_mem hk) s i0 i1, bind_some', w64k (by omega)]
    by_cases h : szR (n (ix xs (k : Int))) s < 0
    · simp [h]
    · simp [h]
  · rintro s k s' ⟨i0, i1⟩ hk hs
    split at hs
    · cases hs
    · rename_i h
      obtain ⟨q1, q2, _⟩ := szR_le i0 h
      injection hs with hs
      subst hs
      exact ⟨q1, by omega⟩
  · rintro s ⟨i0, i1⟩
    rw [hf, if_neg (by simp)]
def CapL {α : Type} (p : α → Prop) (xs : List α) : Prop := xs.length ≤ lim ∧ ∀ x ∈ xs, p x
theorem szIntS_eq {xs : List Int} {left : Int} (hn : xs.length ≤ lim) (h0 : 0 ≤ left) (h1 : left ≤ 1048576) : Z1a xs left = some (szR xs.length left) := sz_flat hn h0 h1
theorem sz_list {α : Type} [Inhabited α] {xs : List α} {n : α → Nat} {left : Int} {x : Int → Option Int} (hn : xs.length ≤ lim) (h0 : 0 ≤ left) (h1 : left ≤ 1048576) (hx : ¬ szR xs.length left < 0 → x (szR xs.length left) = some (szR ((xs.map n).sum) (szR xs.length left))) :
    (if (decide ((w64 (left - (xs.length : Int))) < (0 : Int))) = true then (some (-1 : Int)) else x (w64 (left - (xs.length : Int)))) = some (szR (sumN n xs) left) := by
  have hn' := hn
  unfold lim at hn'
  unfold sumN
  rw [szR_add h0]
  have e : w64 (left - (xs.length : Int)) = left - xs.length := w64_id (by omega) (by omega)
  rw [e]
  by_cases h : left < (xs.length : Int)
  · rw [if_pos (by simp; omega), if_pos (by unfold szR; rw [if_pos h]; omega)]
  · have e2 : szR xs.length left = left - xs.length := by unfold szR; rw [if_neg h]
    rw [if_neg (by simp; omega), if_neg (by rw [e2]; omega)]
    have := hx (by rw [e2]; omega)
    rw [e2] at this ⊢
    exact this
theorem inr_ {k : Nat} {n : Nat} (h : k < n) : (0 : Int) ≤ (k : Int) ∧ (k : Int) < (n : Int) := ⟨by omega, by omega⟩
theorem lt_ {k : Nat} {n : Nat} (h : k < n) : (decide ((k : Int) < (n : Int))) = true := by simpa using h
theorem nlt_ {n : Nat} : (decide ((n : Int) < (n : Int))) = false := by simp
theorem all_range_eq (xs ys : List Int) (h : xs.length = ys.length) : ((List.range xs.length).all fun k => ix xs (k : Int) == ix ys (k : Int)) = decide (xs = ys) := by
  by_cases e : xs = ys
  · subst e; simp
  · simp only [e, decide_false]
    rw [List.all_eq_false]
    refine Classical.byContradiction fun hn => e ?_
    refine List.ext_getElem h fun k h1 h2 => ?_
    refine Classical.byContradiction fun hne => hn ⟨k, by simpa using h1, ?_⟩
    rw [ix_at h1, ix_at h2]
    simpa using hne
theorem same_eq (xs ys : List Int) (h : xs.length < big) : Z02 xs ys = some (decide (xs = ys)) := by
  unfold Z02
  by_cases hl : xs.length = ys.length
  · rw [if_neg (by simp [hl])]
    rw [loop_allI xs.length (fun s : Int => Z02_L1 xs ys s) (fun i => i) (fun k => ix xs (k : Int) == ix ys (k : Int)) (.inl false) (.inr ()) (fun k hk => by
      unfold Z02_L1
      rw [if_pos (lt_ hk), if_pos (inr_ hk), if_pos (inr_ (hl ▸ hk)), w64k (by omega)]
      by_cases hq : ix xs (k : Int) = ix ys (k : Int)
      · simp [hq]
      · simp [hq]) (by unfold Z02_L1; simp only [nlt_, Bool.false_eq_true, if_false])]
    rw [all_range_eq xs ys hl, bind_some']
    by_cases e : xs = ys <;> simp [e, Z02_J1]
  · rw [if_pos (by simp; omega)]
    have : xs ≠ ys := fun e => hl (by rw [e])
    simp [this]
theorem eqIntS_same (xs ys : List Int) : Zs xs ys = Z02 xs ys := rfl
theorem gc_t {α : Type} [Inhabited α] (x : Option α) : gcall true x = x := rfl
def Rg (g : List Bool) (n : Nat) (gl : List Int) : Prop := g.length = n ∧ ∀ j : Nat, j < n → ix g (j : Int) = decide ((j : Int) ∈ gl)
theorem Rg.set {g : List Bool} {n : Nat} {gl : List Int} (h : Rg g n gl) {b : Int} (h0 : 0 ≤ b) (h1 : b < (n : Int)) : Rg (g.set b.toNat true) n (gl ++ [b]) := by
  obtain ⟨hl, hx⟩ := h
  refine ⟨by simpa using hl, fun j hj => ?_⟩
  obtain ⟨c, rfl⟩ := Int.eq_ofNat_of_zero_le h0
  have hj' : j < (g.set (c : Int).toNat true).length := by simpa [hl] using hj
  rw [ix_at hj', List.getElem_set]
  by_cases e : (c : Int).toNat = j
  · rw [if_pos e]; have : c = j := by omega
    subst this; simp
  · rw [if_neg e]
    have h2 := hx j hj
    rw [ix_at (by omega)] at h2
    rw [h2]
    have : ¬ (j : Int) = (c : Int) := by omega
    simp [this]
theorem set_loop {α T : Type} [Inhabited α] (xs : List α) (z : α) (f : T → Option (T ⊕ List α)) (mk : List α → Int → T)
    (hf : ∀ (ys : List α) (k : Nat), ys.length = xs.length → k < xs.length → f (mk ys (k : Int)) = some (.inl (mk (ys.set k (ix xs (k : Int))) ((k + 1 : Nat) : Int))))
    (hl : ∀ ys : List α, ys.length = xs.length → f (mk ys (xs.length : Int)) = some (.inr ys)) : loopM f (mk (List.replicate (xs.length : Int).toNat z) 0) = some xs := by
  rw [Int.toNat_natCast]
  rw [loop_goI (S := List α) xs (fun _ s => s.length = xs.length) f mk (fun s k x => .inl (s.set k x)) (fun s => s) (fun s k hI hk => hf s k hI hk) (fun s k s' hI hk h => by injection h with h; subst h; simpa using hI) hl _ (by simp)]
  congr 1
  have key : ∀ (m k : Nat) (ys : List α), k + m = xs.length → ys.length = xs.length → (∀ j, j < k → ys[j]? = xs[j]?) → goI (R := List α) (fun s k x => .inl (s.set k x)) (fun s => s) (xs.drop k) k ys = xs := by
    intro m
    induction m with
    | zero =>
      intro k ys hk hl he
      have hk : k = xs.length := by omega
      subst hk
      rw [List.drop_length]
      show ys = xs
      refine List.ext_getElem? fun j => ?_
      by_cases hj : j < xs.length
      · exact he j hj
      · rw [List.getElem?_eq_none (by omega), List.getElem?_eq_none (by omega)]
    | succ m ih =>
      intro k ys hk hl he
      have hlt : k < xs.length := by omega
      rw [List.drop_eq_getElem_cons hlt]
      unfold goI
      refine ih (k + 1) _ (by omega) (by simpa using hl) (fun j hj => ?_)
      rw [List.getElem?_set]
      by_cases e : k = j
      · subst e; rw [if_pos rfl, if_pos (by omega)]; exact (List.getElem?_eq_getElem hlt).symm
      · rw [if_neg e]; exact he j (by omega)
  simpa using key xs.length 0 (List.replicate xs.length z) (by omega) (by simp) (fun j hj => by omega)
theorem rep_ {α : Type} {n : Nat} {z : α} {k : Nat} (h : k < n) : (0 : Int) ≤ (k : Int) ∧ (k : Int) < ((List.replicate (n : Int).toNat z).length : Int) := by
  rw [List.length_replicate, Int.toNat_natCast]; omega
theorem toIntS_eq (xs : List Int) (h : xs.length ≤ 1048576) : Zg xs = some xs := by
  unfold Zg
  rw [if_pos (by omega), set_loop xs 0 (fun s : (List Int) × Int => Zg_L1 xs s.1 s.2) (fun s i => (s, i)) (fun ys k hl hk => by
    show Zg_L1 xs ys (k : Int) = _
    unfold Zg_L1
    rw [if_pos (lt_ hk), if_pos (inr_ hk), if_pos (rep_ hk), w64k (by unfold big; omega)]; rfl) (fun ys _ => by
    show Zg_L1 xs ys (xs.length : Int) = _
    unfold Zg_L1; simp only [nlt_, Bool.false_eq_true, if_false])]
  rfl
theorem ints_eq (xs : List Int) (h : xs.length ≤ 1048576) : Z0w xs = some xs := by
  unfold Z0w; rw [if_pos (by simp; omega)]; simp
theorem cloneI_eq (xs : List Int) (h : xs.length ≤ 1048576) : Z0m xs = some xs := by
  unfold Z0m; rw [if_pos (by omega)]
theorem eqI_rfl (xs : List Int) (h : xs.length ≤ 1048576) : Zs xs xs = some true := by
  rw [eqIntS_same, same_eq _ _ (by unfold big; omega)]; simp
theorem eqL_rfl {α : Type} [Inhabited α] (xs : List α) (f : Int → Option (Int ⊕ (Bool ⊕ Unit))) (hl : xs.length ≤ 1048576) (e : α → α → Option Bool) (he : ∀ x ∈ xs, e x x = some true)
    (hf : ∀ i, f i = if (decide (i < (xs.length : Int))) = true then (if (0 ≤ i ∧ i < (xs.length : Int)) then if (0 ≤ i ∧ i < (xs.length : Int)) then (e (ix xs i) (ix xs i)).bind fun (r : Bool) => if (!r) = true then (some (.inr (.inl false))) else (some (.inl (w64 (i + (1 : Int))))) else none else none) else (some (.inr (.inr ())))) :
    loopM f 0 = some (.inr ()) := by
  rw [loop_all xs f (fun i => i) (fun _ => true) (.inl false) (.inr ()) (fun k hk => by
    rw [hf, if_pos (lt_ hk), if_pos (inr_ hk), if_pos (inr_ hk), he _ (ix_mem hk), bind_some', w64k (by unfold big; omega)]; rfl) (by rw [hf]; simp only [nlt_, Bool.false_eq_true, if_false])]
  simp
theorem bne_self_i (x : Int) : (x != x) = false := by simp
def BB : Nat := 4611686018427387904
theorem ix_set {α : Type} [Inhabited α] {ys : List α} {k : Nat} {v : α} (h : k < ys.length) : ix (ys.set k v) (k : Int) = v := by
  rw [ix_at (by simpa using h)]; simp
theorem ix_set_ne {α : Type} [Inhabited α] {ys : List α} {k j : Nat} {v : α} (h : k ≠ j) : ix (ys.set k v) (j : Int) = ix ys (j : Int) := by
  simp [ix, List.getD_eq_getElem?_getD, List.getElem?_set, h]
def cnt {α : Type} (n : α → Nat) (xs : List α) : Nat := (xs.map n).sum
theorem cnt_cons {α : Type} (n : α → Nat) (x : α) (t : List α) : cnt n (x :: t) = n x + cnt n t := by simp [cnt]
theorem cnt_drop {α : Type} (n : α → Nat) {xs : List α} {k : Nat} (h : k < xs.length) : cnt n (xs.drop k) = n xs[k] + cnt n (xs.drop (k + 1)) := by
  rw [List.drop_eq_getElem_cons h, cnt_cons]
theorem mark_loop {α T U : Type} [Inhabited α] (xs : List α) (n : α → Nat) (g : α → Nat → α) (f : T → Option (T ⊕ (Int × List α))) (mk : List α → Int → Int → T)
    (hf : ∀ (ys : List α) (k i : Nat), i < xs.length → ys.length = xs.length → ix ys (i : Int) = ix xs (i : Int) → k + n (ix xs (i : Int)) ≤ BB → f (mk ys (k : Int) (i : Int)) = some (.inl (mk (ys.set i (g (ix xs (i : Int)) k)) ((k + n (ix xs (i : Int)) : Nat) : Int) ((i + 1 : Nat) : Int))))
    (he : ∀ ys k, f (mk ys k (xs.length : Int)) = some (.inr (k, ys))) (k : Nat) (hk : k + cnt n xs ≤ BB) :
    ∃ ys, loopM f (mk xs (k : Int) 0) = some (((k + cnt n xs : Nat) : Int), ys) ∧ ys.length = xs.length ∧
      ∀ (f2 : U → Option (U ⊕ (Int ⊕ Int))) (mk2 : Int → Int → U), (∀ (k i : Nat), i < xs.length → k + n (ix xs (i : Int)) ≤ BB → ix ys (i : Int) = g (ix xs (i : Int)) k → f2 (mk2 (k : Int) (i : Int)) = some (.inl (mk2 ((k + n (ix xs (i : Int)) : Nat) : Int) ((i + 1 : Nat) : Int)))) →
        (∀ k, f2 (mk2 k (xs.length : Int)) = some (.inr (.inr k))) → loopM f2 (mk2 (k : Int) 0) = some (.inr ((k + cnt n xs : Nat) : Int)) := by
  have key : ∀ (m i k : Nat) (ys : List α), i + m = xs.length → ys.length = xs.length → (∀ j, i ≤ j → j < xs.length → ix ys (j : Int) = ix xs (j : Int)) → k + cnt n (xs.drop i) ≤ BB →
      ∃ zs, loopM f (mk ys (k : Int) (i : Int)) = some (((k + cnt n (xs.drop i) : Nat) : Int), zs) ∧ zs.length = xs.length ∧ (∀ j, j < i → ix zs (j : Int) = ix ys (j : Int)) ∧
        ∀ (f2 : U → Option (U ⊕ (Int ⊕ Int))) (mk2 : Int → Int → U), (∀ (k j : Nat), i ≤ j → j < xs.length → k + n (ix xs (j : Int)) ≤ BB → ix zs (j : Int) = g (ix xs (j : Int)) k → f2 (mk2 (k : Int) (j : Int)) = some (.inl (mk2 ((k + n (ix xs (j : Int)) : Nat) : Int) ((j + 1 : Nat) : Int)))) →
          (∀ k, f2 (mk2 k (xs.length : Int)) = some (.inr (.inr k))) → loopM f2 (mk2 (k : Int) (i : Int)) = some (.inr ((k + cnt n (xs.drop i) : Nat) : Int)) := by
    intro m
    induction m with
    | zero =>
      intro i k ys hi hl _ _
      have hi : i = xs.length := by omega
      subst hi
      rw [List.drop_length]
      exact ⟨ys, loopM_end (he ys k), hl, fun j _ => rfl, fun f2 mk2 _ h2 => loopM_end (h2 k)⟩
    | succ m ih =>
      intro i k ys hi hl hx hb
      have hlt : i < xs.length := by omega
      have hc := cnt_drop n hlt
      rw [← ix_at hlt] at hc
      have hf' := hf ys k i hlt hl (hx i (Nat.le_refl _) hlt) (by omega)
      obtain ⟨zs, z1, z2, z3, z4⟩ := ih (i + 1) (k + n (ix xs (i : Int))) (ys.set i (g (ix xs (i : Int)) k)) (by omega) (by simpa using hl) (fun j h1 h2 => by
        rw [ix_set_ne (by omega)]; exact hx j (by omega) h2) (by omega)
      have hsum : k + n (ix xs (i : Int)) + cnt n (xs.drop (i + 1)) = k + cnt n (xs.drop i) := by omega
      rw [hsum] at z1 z4
      refine ⟨zs, by rw [loopM_next hf']; exact z1, z2, fun j hj => ?_, fun f2 mk2 h1 h2 => ?_⟩
      · rw [z3 j (by omega), ix_set_ne (by omega)]
      · have hz : ix zs (i : Int) = g (ix xs (i : Int)) k := by rw [z3 i (by omega), ix_set (by omega)]
        rw [loopM_next (h1 k i (Nat.le_refl _) hlt (by omega) hz)]
        exact z4 f2 mk2 (fun k j h3 => h1 k j (by omega)) h2
  obtain ⟨ys, y1, y2, _, y4⟩ := key xs.length 0 k xs (by omega) rfl (fun _ _ _ => rfl) (by simpa using hk)
  rw [List.drop_zero] at y1 y4
  exact ⟨ys, y1, y2, fun f2 mk2 h1 h2 => y4 f2 mk2 (fun k j _ => h1 k j) h2⟩
theorem wn {k : Nat} (h : k + 1 ≤ BB) : w64 ((k : Int) + 1) = ((k + 1 : Nat) : Int) := by
  unfold BB at h; rw [w64_id (by omega) (by omega)]; omega
theorem cnt_one {α : Type} (c : Nat) (xs : List α) : cnt (fun _ => c) xs = c * xs.length := by
  induction xs with
  | nil => simp [cnt]
  | cons x t ih => rw [cnt_cons, ih, List.length_cons, Nat.mul_succ]; omega
theorem nonneg_ (k : Nat) : decide ((k : Int) < 0) = false := decide_eq_false (by omega)
noncomputable def mkI (xs : List Int) (k : Nat) : List Int := ((Zm xs (k : Int)).getD default).2
theorem wi {n k : Nat} (hn : n ≤ 1048576) (h : k < n) : w64 ((k : Int) + 1) = ((k + 1 : Nat) : Int) := w64k (by unfold big; omega)
theorem markI_eq (xs : List Int) (k : Nat) (hl : xs.length ≤ 1048576) (h : k + xs.length ≤ BB) : Zm xs (k : Int) = some (((k + xs.length : Nat) : Int), mkI xs k) ∧ Z00 (mkI xs k) (k : Int) = some ((k + xs.length : Nat) : Int) := by
  obtain ⟨ys, y1, y2, y3⟩ := mark_loop (U := Int × Int) xs (fun _ => 1) (fun _ k => (k : Int)) (fun s : (List Int) × Int × Int => Zm_L1 xs s.1 s.2.1 s.2.2) (fun ys k i => (ys, k, i)) (fun ys k i hi hy hx hk => by
    show Zm_L1 xs ys (k : Int) (i : Int) = _
    unfold Zm_L1
    rw [if_pos (lt_ hi), if_pos (inr_ hi), wi hl hi, wn hk, Int.toNat_natCast]) (fun ys k => by
    show Zm_L1 xs ys k (xs.length : Int) = _
    unfold Zm_L1; simp only [nlt_, Bool.false_eq_true, if_false]) k (by rw [cnt_one]; omega)
  rw [cnt_one, Nat.one_mul] at y1 y3
  have e : Zm xs (k : Int) = some (((k + xs.length : Nat) : Int), ys) := by
    unfold Zm; rw [y1, bind_some']; rfl
  have em : mkI xs k = ys := by unfold mkI; rw [e]; rfl
  rw [em]
  refine ⟨e, ?_⟩
  unfold Z00
  rw [y3 (fun s : Int × Int => Z00_L1 ys s.1 s.2) (fun k i => (k, i)) (fun k i hi hk hz => by
    show Z00_L1 ys (k : Int) (i : Int) = _
    unfold Z00_L1
    rw [if_pos (lt_ (by omega)), if_pos (inr_ (by omega)), hz, bne_self_i, wi hl hi, wn hk]; rfl) (fun k => by
    show Z00_L1 ys k (xs.length : Int) = _
    rw [← y2]
    unfold Z00_L1; simp only [nlt_, Bool.false_eq_true, if_false])]
  rfl
theorem sumN_len {α : Type} (n : α → Nat) (xs : List α) : xs.length ≤ sumN n xs := by unfold sumN; omega
theorem sumN_mem {α : Type} (n : α → Nat) {xs : List α} {x : α} (h : x ∈ xs) : n x ≤ sumN n xs := by
  have : n x ≤ (xs.map n).sum := by
    induction xs with
    | nil => cases h
    | cons y t ih =>
      rcases List.mem_cons.1 h with rfl | h
      · simp
      · have := ih h; simp; omega
  unfold sumN; omega
end Go.Proofs.Ytkfgngcfcoplpaa
