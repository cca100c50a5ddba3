import Derived.Test.YtkfgngcfcoplpaaGeF
import Derived.Test.YtkfgngcfcoplpaaPL1
import Derived.Sort.AssemblyPlain
import Derived.Sort.LotD4
import Derived.Sort.LotD5
import Derived.Laws.Bits64b
import Derived.Sort.Walk13a
import Derived.Test.YtkfgngcfcoplpaaGeP
import Derived.Test.YtkfgngcfcoplpaaSrt0
set_option linter.unusedVariables false
set_option linter.unusedSimpArgs false
namespace Go.Proofs.Ytkfgngcfcoplpaa
open Go Go.Pg
def lexc : List Int → List Int → Int
  | [], [] => 0
  | [], _ :: _ => -1
  | _ :: _, [] => 1
  | x :: xs, y :: ys => if x < y then -1 else if y < x then 1 else lexc xs ys
theorem lexc_self (a : List Int) : lexc a a = 0 := by
  induction a with
  | nil => rfl
  | cons x xs ih => simp [lexc, ih]
theorem lexc_eq (a b : List Int) (h : lexc a b = 0) : a = b := by
  induction a generalizing b with
  | nil => cases b with
    | nil => rfl
    | cons y ys => simp [lexc] at h
  | cons x xs ih => cases b with
    | nil => simp [lexc] at h
    | cons y ys =>
      unfold lexc at h
      by_cases h1 : x < y
      · simp [h1] at h
      · by_cases h2 : y < x
        · simp [h1, h2] at h
        · rw [if_neg h1, if_neg h2] at h
          rw [show x = y by omega, ih ys h]
theorem lexc_swap (a b : List Int) : lexc b a = -lexc a b := by
  induction a generalizing b with
  | nil => cases b <;> simp [lexc]
  | cons x xs ih => cases b with
    | nil => simp [lexc]
    | cons y ys =>
      unfold lexc
      by_cases h1 : x < y
      · rw [if_neg (by omega), if_pos h1, if_pos h1]; rfl
      · by_cases h2 : y < x
        · rw [if_pos h2, if_neg h1, if_pos h2]
        · rw [if_neg h1, if_neg h2, if_neg h1, if_neg h2, ih ys]
theorem lexc_trans (a b c : List Int) (h1 : lexc a b < 0) (h2 : lexc b c < 0) : lexc a c < 0 := by
  induction a generalizing b c with
  | nil => cases b with
    | nil => simp [lexc] at h1
    | cons y ys => cases c with
      | nil => simp [lexc] at h2
      | cons z zs => simp [lexc]
  | cons x xs ih => cases b with
    | nil => simp [lexc] at h1
    | cons y ys => cases c with
      | nil => simp [lexc] at h2
      | cons z zs =>
        unfold lexc at h1 h2 ⊢
        by_cases a1 : x < y
        · by_cases a2 : y < z
          · rw [if_pos (by omega)]; omega
          · rw [if_neg a2] at h2
            by_cases a3 : z < y
            · rw [if_pos a3] at h2; omega
            · rw [if_pos (by omega)]; omega
        · rw [if_neg a1] at h1
          by_cases a2 : y < x
          · rw [if_pos a2] at h1; omega
          · rw [if_neg a2] at h1
            by_cases a3 : y < z
            · rw [if_pos (by omega)]; omega
            · rw [if_neg a3] at h2
              by_cases a4 : z < y
              · rw [if_pos a4] at h2; omega
              · rw [if_neg a4] at h2
                rw [if_neg (by omega), if_neg (by omega)]
                exact ih ys zs h1 h2
def bk (a b : List Int) : Int := if a.length < b.length then -1 else if b.length < a.length then 1 else lexc a b
theorem bk_self (a : List Int) : bk a a = 0 := by simp [bk, lexc_self]
theorem bk_eq (a b : List Int) (h : bk a b = 0) : a = b := by
  unfold bk at h
  split at h
  · omega
  · split at h
    · omega
    · exact lexc_eq a b h
theorem bk_swap (a b : List Int) : bk b a = -bk a b := by
  unfold bk
  by_cases h1 : a.length < b.length
  · rw [if_neg (by omega), if_pos h1, if_pos h1]; rfl
  · by_cases h2 : b.length < a.length
    · rw [if_pos h2, if_neg h1, if_pos h2]
    · rw [if_neg h1, if_neg h2, if_neg h1, if_neg h2, lexc_swap a b]
theorem bk_trans (a b c : List Int) (h1 : bk a b < 0) (h2 : bk b c < 0) : bk a c < 0 := by
  unfold bk at *
  by_cases a1 : a.length < b.length
  · by_cases a2 : b.length < c.length
    · rw [if_pos (by omega)]; omega
    · rw [if_neg a2] at h2
      by_cases a3 : c.length < b.length
      · rw [if_pos a3] at h2; omega
      · rw [if_pos (by omega)]; omega
  · rw [if_neg a1] at h1
    by_cases a2 : b.length < a.length
    · rw [if_pos a2] at h1; omega
    · rw [if_neg a2] at h1
      by_cases a3 : b.length < c.length
      · rw [if_pos (by omega)]; omega
      · rw [if_neg a3] at h2
        by_cases a4 : c.length < b.length
        · rw [if_pos a4] at h2; omega
        · rw [if_neg a4] at h2
          rw [if_neg (by omega), if_neg (by omega)]
          exact lexc_trans a b c h1 h2
theorem bk_le (a b c : List Int) (h1 : bk a b ≤ 0) (h2 : bk b c ≤ 0) : bk a c ≤ 0 := by
  rcases Int.lt_or_eq_of_le h1 with h3 | h3
  · rcases Int.lt_or_eq_of_le h2 with h4 | h4
    · exact Int.le_of_lt (bk_trans a b c h3 h4)
    · rw [← bk_eq b c h4]; exact h1
  · rw [bk_eq a b h3]; exact h2
abbrev ltR (x y : Row) : Bool := decide (bk x.Key y.Key < 0)
theorem swoR : Sort.SWO ltR where
  irrefl x := by simp [ltR, bk_self]
  trans x y z h1 h2 := by
    simp only [ltR, decide_eq_true_eq] at *
    exact bk_trans _ _ _ h1 h2
  ntrans x y z h1 h2 := by
    simp only [ltR, decide_eq_false_iff_not, Int.not_lt] at *
    have := bk_le z.Key y.Key x.Key (by rw [bk_swap y.Key z.Key]; omega) (by rw [bk_swap x.Key y.Key]; omega)
    rw [bk_swap x.Key z.Key] at this
    omega
theorem cmpI_eq (x y : Int) : Z0r x y = some (if x < y then -1 else if y < x then 1 else 0) := by
  unfold Z0r Z16
  simp only [Option.bind_some, bne_self_eq_false, Bool.false_eq_true, if_false, decide_eq_true_eq, gt_iff_lt]
  split
  · rfl
  · split <;> rfl
theorem cmpL_eq (s1 s2 : List Int) (hb : s1.length < big) : Z01 s1 s2 = some (lexc s1 s2) := by
  have key : ∀ m k : Nat, k + m = s1.length → k ≤ s2.length → (loopM (fun s : Int => Z01_L1 s1 s2 s) (k : Int)).bind (fun e => match e with | .inl e => some e | .inr e => Z01_J1 s1 s2) = some (lexc (s1.drop k) (s2.drop k)) := by
    intro m
    induction m with
    | zero =>
      intro k hk hk2
      obtain rfl : k = s1.length := by omega
      rw [loopM_end (r := .inr ()) (by
        show Z01_L1 _ _ _ = _
        unfold Z01_L1
        rw [if_neg (by simp)])]
      show Z01_J1 s1 s2 = _
      unfold Z01_J1
      rw [List.drop_length]
      by_cases h : s1.length < s2.length
      · rw [if_pos (by simpa using h), List.drop_eq_getElem_cons h]; rfl
      · rw [if_neg (by simpa using h), List.drop_eq_nil_of_le (by omega)]; rfl
    | succ m ih =>
      intro k hk hk2
      have hlt : k < s1.length := by omega
      have hf : Z01_L1 s1 s2 (k : Int) = (if k ≥ s2.length then some (.inr (.inl 1)) else if (if ix s1 (k : Int) < ix s2 (k : Int) then (-1 : Int) else if ix s2 (k : Int) < ix s1 (k : Int) then 1 else 0) = 0 then some (.inl ((k + 1 : Nat) : Int)) else some (.inr (.inl (if ix s1 (k : Int) < ix s2 (k : Int) then (-1 : Int) else if ix s2 (k : Int) < ix s1 (k : Int) then 1 else 0)))) := by
        unfold Z01_L1
        rw [if_pos (by simpa using hlt), if_pos ⟨by omega, by omega⟩]
        by_cases h : k ≥ s2.length
        · rw [if_pos (by simpa using h), if_pos h]
        · rw [if_neg (by simpa using h), if_neg h, if_pos ⟨by omega, by omega⟩, cmpI_eq, Option.bind_some, w64k (by unfold big at *; omega)]
          by_cases h0 : (if ix s1 (k : Int) < ix s2 (k : Int) then (-1 : Int) else if ix s2 (k : Int) < ix s1 (k : Int) then 1 else 0) = 0
          · rw [if_pos h0, if_neg (by simpa using h0)]
          · rw [if_neg h0, if_pos (by simpa using h0)]
      rw [List.drop_eq_getElem_cons hlt]
      by_cases h : k ≥ s2.length
      · rw [if_pos h] at hf
        rw [loopM_end hf, List.drop_eq_nil_of_le h]; rfl
      · rw [if_neg h] at hf
        rw [List.drop_eq_getElem_cons (show k < s2.length by omega), ← ix_at hlt, ← ix_at (show k < s2.length by omega)]
        unfold lexc
        by_cases a1 : ix s1 (k : Int) < ix s2 (k : Int)
        · rw [if_pos a1, if_neg (by omega)] at hf
          rw [loopM_end hf, if_pos a1]; rfl
        · rw [if_neg a1] at hf
          rw [if_neg a1]
          by_cases a2 : ix s2 (k : Int) < ix s1 (k : Int)
          · rw [if_pos a2, if_neg (by omega)] at hf
            rw [loopM_end hf, if_pos a2]; rfl
          · rw [if_neg a2, if_pos rfl] at hf
            rw [loopM_next hf, if_neg a2]
            exact ih (k + 1) (by omega) (by omega)
  exact key s1.length 0 (by omega) (by omega)
theorem or_eq (x y : Int) : Z05 [x, y] = some (if x = 0 then y else x) := by
  unfold Z05
  have h0 : Z05_L1 [x, y] 0 = (if x = 0 then some (.inl 1) else some (.inr (.inl x))) := by
    unfold Z05_L1
    by_cases h : x = 0
    · subst h; rfl
    · simp [ix, h]
  have h1 : Z05_L1 [x, y] 1 = (if y = 0 then some (.inl 2) else some (.inr (.inl y))) := by
    unfold Z05_L1
    by_cases h : y = 0
    · subst h; rfl
    · simp [ix, h]
  have h2 : Z05_L1 [x, y] 2 = some (.inr (.inr ())) := by
    unfold Z05_L1; simp
  by_cases hx : x = 0
  · rw [if_pos hx] at h0
    rw [if_pos hx, loopM_next h0]
    by_cases hy : y = 0
    · rw [if_pos hy] at h1
      rw [loopM_next h1, loopM_end h2, hy]; rfl
    · rw [if_neg hy] at h1
      rw [loopM_end h1]; rfl
  · rw [if_neg hx] at h0
    rw [if_neg hx, loopM_end h0]; rfl
theorem byKey_eq (a b : List Int) (h : a.length < big) : Z0u a b = some (bk a b) := by
  unfold Z0u
  rw [cmpI_eq, Option.bind_some, cmpL_eq a b h, Option.bind_some, or_eq, Option.bind_some]
  unfold bk
  by_cases h1 : a.length < b.length
  · simp [h1]
  · by_cases h2 : b.length < a.length
    · simp [h1, h2]
    · simp [h1, h2]
def GR (x : Row) : Prop := x.Key.length < big
theorem cmpR {x y : Row} (h : GR x) : Z9 x y = some (bk x.Key y.Key) := by
  unfold Z9
  rw [byKey_eq _ _ h]; rfl
def Gd (d : Array Row) : Prop := ∀ i : Nat, GR d[i]!
theorem ix_arr (d : Array Row) (i : Nat) : ix d.toList (i : Int) = d[i]! := by
  unfold ix
  rw [Int.toNat_natCast, List.getD_eq_getElem?_getD, Array.getElem?_toList, getElem!_def]
  cases d[i]? <;> rfl
theorem swp_list (d : Array Row) (i j : Nat) : (d.toList.set i d[j]!).set j d[i]! = (Sort.swp d i j).toList := by
  simp [Sort.swp, Array.toList_setIfInBounds]
theorem Gd_set {d : Array Row} (h : Gd d) (i : Nat) (x : Row) (hx : GR x) : Gd (d.setIfInBounds i x) := by
  intro k
  rw [getElem!_def, Array.getElem?_setIfInBounds]
  by_cases h1 : i = k
  · rw [if_pos h1]
    by_cases h2 : i < d.size
    · rw [if_pos h2]; exact hx
    · rw [if_neg h2]; have := h d.size; rw [getElem!_def, Array.getElem?_eq_none (Nat.le_refl _)] at this; exact this
  · rw [if_neg h1, ← getElem!_def]; exact h k
theorem Gd_swp {d : Array Row} (h : Gd d) (i j : Nat) : Gd (Sort.swp d i j) := Gd_set (Gd_set h i _ (h j)) j _ (h i)
theorem sz_swp (d : Array Row) (i j : Nat) : (Sort.swp d i j).size = d.size := by simp [Sort.swp]
theorem w64m {k : Nat} (h : k < big) : w64 (((k + 1 : Nat) : Int) - 1) = (k : Int) := by
  unfold big at h; rw [w64_id (by omega) (by omega)]; omega
theorem w64n {x : Int} {k : Nat} (h : x = (k : Int)) (hb : k < big) : w64 x = (k : Int) := by
  subst h; unfold big at hb; exact w64_id (by omega) (by omega)
theorem cmpA {d : Array Row} (h : Gd d) (i j : Nat) : Z9 d[i]! d[j]! = some (bk d[i]!.Key d[j]!.Key) := cmpR (h i)
structure Ok (D : List Row) (d : Array Row) : Prop where
  g : Gd d
  s : d.size = D.length
  b : D.length < big
theorem Ok.swp {D : List Row} {d : Array Row} (h : Ok D d) (i j : Nat) : Ok D (Sort.swp d i j) := ⟨Gd_swp h.g i j, by rw [sz_swp]; exact h.s, h.b⟩
theorem Ok.self {D : List Row} {d : Array Row} (h : Ok D d) : Ok d.toList d := ⟨h.g, by simp, by rw [Array.length_toList, h.s]; exact h.b⟩
theorem Ok.back {D : List Row} {d e : Array Row} (h : Ok D d) (h2 : Ok d.toList e) : Ok D e := ⟨h2.g, by rw [h2.s, Array.length_toList, h.s], h.b⟩
theorem ins_L2e {D : List Row} {d : Array Row} (h : Ok D d) (a j : Nat) (hj : j + 1 < D.length) : Zh_L2 D (a : Int) d.toList ((j + 1 : Nat) : Int) = some (if (decide (j + 1 > a) && ltR d[j + 1]! d[j]!) = true then .inl ((Sort.swp d (j + 1) j).toList, (j : Int)) else .inr d.toList) := by
  have hb := h.b
  unfold Zh_L2
  rw [w64m (by unfold big at *; omega)]
  by_cases h1 : j + 1 > a
  · have e : decide (((j + 1 : Nat) : Int) > (a : Int)) = true := by simp; omega
    rw [e, if_pos (fun _ => ⟨by omega, by omega⟩), if_pos (fun _ => ⟨by omega, by omega⟩)]
    simp only [gcall, cond_true, ix_arr, Int.toNat_natCast, swp_list, nm_bind, cmpA h.g, Option.bind_some, Bool.true_and, h1, decide_true]
    by_cases h2 : ltR d[j + 1]! d[j]! = true
    · rw [if_pos h2, if_pos ⟨by omega, by omega⟩, if_pos ⟨by omega, by omega⟩, if_pos h2]
    · rw [if_neg h2, if_neg h2]
  · have e : decide (((j + 1 : Nat) : Int) > (a : Int)) = false := by simp; omega
    rw [e]
    simp [gcall, h1]
theorem ins_in {D : List Row} (a : Nat) : ∀ (j : Nat) (d : Array Row), Ok D d → j < D.length → loopM (fun s : (List Row) × Int => Zh_L2 D (a : Int) s.1 s.2) (d.toList, (j : Int)) = some (Sort.insInner ltR a j d).toList ∧ Ok D (Sort.insInner ltR a j d) := by
  intro j
  induction j with
  | zero =>
    intro d h hj
    refine ⟨loopM_end ?_, h⟩
    show Zh_L2 D (a : Int) d.toList ((0 : Nat) : Int) = _
    unfold Zh_L2
    have e : decide (((0 : Nat) : Int) > (a : Int)) = false := by simp
    rw [e]
    simp [gcall, Sort.insInner]
  | succ j ih =>
    intro d h hj
    have hf := ins_L2e h a j hj
    unfold Sort.insInner
    by_cases h1 : (decide (j + 1 > a) && ltR d[j + 1]! d[j]!) = true
    · rw [if_pos h1] at hf
      rw [loopM_next (s' := ((Sort.swp d (j + 1) j).toList, (j : Int))) hf, if_pos h1]
      exact ih _ (h.swp _ _) (by omega)
    · rw [if_neg h1] at hf
      rw [if_neg h1]
      exact ⟨loopM_end hf, h⟩
theorem ins_out {D : List Row} (a b : Nat) (hb : b ≤ D.length) : ∀ (m i : Nat) (d : Array Row), i + m = max i b → Ok D d → loopM (fun s : (List Row) × Int => Zh_L1 D (a : Int) (b : Int) s.1 s.2) (d.toList, (i : Int)) = some (Sort.insOuter ltR a b i d).toList ∧ Ok D (Sort.insOuter ltR a b i d) := by
  intro m
  induction m with
  | zero =>
    intro i d hm h
    rw [Sort.insOuter, if_neg (by omega)]
    refine ⟨loopM_end ?_, h⟩
    show Zh_L1 D (a : Int) (b : Int) d.toList (i : Int) = _
    unfold Zh_L1
    rw [if_neg (by simp; omega)]
  | succ m ih =>
    intro i d hm h
    have hi : i < b := by omega
    have hin := ins_in a i d h (by omega)
    rw [Sort.insOuter, if_pos hi]
    have hf : Zh_L1 D (a : Int) (b : Int) d.toList (i : Int) = some (.inl ((Sort.insInner ltR a i d).toList, ((i + 1 : Nat) : Int))) := by
      unfold Zh_L1
      rw [if_pos (by simpa using hi), hin.1, Option.bind_some]
      unfold Zh_J2
      rw [w64k (by have := h.b; unfold big at *; omega)]
    rw [loopM_next (s' := ((Sort.insInner ltR a i d).toList, ((i + 1 : Nat) : Int))) hf]
    exact ih (i + 1) _ (by omega) hin.2
theorem ins_eq {D : List Row} {d : Array Row} (h : Ok D d) (a b : Nat) (hb : b ≤ D.length) (ha : a ≤ b) : Zh d.toList (a : Int) (b : Int) = some (Sort.insertionSort ltR d a b).toList ∧ Ok D (Sort.insertionSort ltR d a b) := by
  have := ins_out (D := d.toList) a b (by rw [Array.length_toList, h.s]; exact hb) (b - (a + 1)) (a + 1) d (by omega) h.self
  unfold Zh
  rw [w64k (by have := h.b; unfold big at *; omega), this.1]
  exact ⟨rfl, h.back this.2⟩
theorem sif_J3e {D : List Row} {d : Array Row} (h : Ok D d) (f r c : Nat) (h1 : f + r < D.length) (h2 : f + c < D.length) : Zk_J3 D (f : Int) d.toList (r : Int) (c : Int) = some (if (!ltR d[f + r]! d[f + c]!) = true then .inr d.toList else .inl ((Sort.swp d (f + r) (f + c)).toList, (c : Int))) := by
  have hb := h.b
  unfold Zk_J3
  rw [w64n (k := f + r) (by omega) (by omega), w64n (k := f + c) (by omega) (by omega), if_pos ⟨by omega, by omega⟩, if_pos ⟨by omega, by omega⟩]
  simp only [ix_arr, Int.toNat_natCast, swp_list, nm_bind, cmpA h.g, Option.bind_some]
  split <;> rfl
theorem sif_in {D : List Row} (hi f : Nat) (hf : f + hi ≤ D.length) : ∀ (m r : Nat) (d : Array Row), hi - r ≤ m → Ok D d → r < big → loopM (fun s : (List Row) × Int => Zk_L1 D (hi : Int) (f : Int) s.1 s.2) (d.toList, (r : Int)) = some (Sort.siftDown ltR hi f r d).toList ∧ Ok D (Sort.siftDown ltR hi f r d) := by
  intro m
  induction m with
  | zero =>
    intro r d hm h hr
    have hb := h.b
    unfold big at hb hr
    rw [Sort.siftDown, dif_pos (by omega)]
    refine ⟨loopM_end ?_, h⟩
    show Zk_L1 D (hi : Int) (f : Int) d.toList (r : Int) = _
    unfold Zk_L1
    have e1 : w64 ((2 : Int) * (r : Int)) = ((2 * r : Nat) : Int) := by rw [w64_id (by omega) (by omega)]; omega
    have e2 : hi ≤ r := by omega
    rw [e1]
    by_cases e3 : 2 * r + 1 < 9223372036854775808
    · rw [w64_id (by omega) (by omega), if_pos (by simp; omega)]
    · omega
  | succ m ih =>
    intro r d hm h hr
    have hb := h.b
    unfold big at hb hr
    have e1 : w64 ((2 : Int) * (r : Int)) = ((2 * r : Nat) : Int) := by rw [w64_id (by omega) (by omega)]; omega
    have e2 : w64 (((2 * r : Nat) : Int) + 1) = ((2 * r + 1 : Nat) : Int) := by rw [w64_id (by omega) (by omega)]; omega
    rw [Sort.siftDown]
    by_cases h1 : 2 * r + 1 ≥ hi
    · rw [dif_pos h1]
      refine ⟨loopM_end ?_, h⟩
      show Zk_L1 D (hi : Int) (f : Int) d.toList (r : Int) = _
      unfold Zk_L1
      rw [e1, e2, if_pos (by simp; omega)]
    · rw [dif_neg h1]
      have e3 : w64 (((2 * r + 1 : Nat) : Int) + 1) = ((2 * r + 1 + 1 : Nat) : Int) := by rw [w64_id (by omega) (by omega)]; omega
      have e4 : w64 ((f : Int) + ((2 * r + 1 : Nat) : Int)) = ((f + (2 * r + 1) : Nat) : Int) := by rw [w64_id (by omega) (by omega)]; omega
      have e5 : w64 (((f + (2 * r + 1) : Nat) : Int) + 1) = ((f + (2 * r + 1) + 1 : Nat) : Int) := by rw [w64_id (by omega) (by omega)]; omega
      have hL : Zk_L1 D (hi : Int) (f : Int) d.toList (r : Int) = if (decide (2 * r + 1 + 1 < hi) && ltR d[f + (2 * r + 1)]! d[f + (2 * r + 1) + 1]!) = true then Zk_J3 D (f : Int) d.toList (r : Int) ((2 * r + 2 : Nat) : Int) else Zk_J3 D (f : Int) d.toList (r : Int) ((2 * r + 1 : Nat) : Int) := by
        unfold Zk_L1
        rw [e1, e2, if_neg (by simp; omega), e3, e4, e5]
        by_cases h2 : 2 * r + 1 + 1 < hi
        · have e : decide (((2 * r + 1 + 1 : Nat) : Int) < (hi : Int)) = true := by simp; omega
          rw [e, if_pos (fun _ => ⟨by omega, by omega⟩), if_pos (fun _ => ⟨by omega, by omega⟩)]
          simp only [gcall, cond_true, ix_arr, cmpA h.g, Option.bind_some, Bool.true_and, h2, decide_true]
        · have e : decide (((2 * r + 1 + 1 : Nat) : Int) < (hi : Int)) = false := by simp; omega
          rw [e]
          simp [gcall, h2]
      by_cases h2 : (decide (2 * r + 1 + 1 < hi) && ltR d[f + (2 * r + 1)]! d[f + (2 * r + 1) + 1]!) = true
      · rw [if_pos h2] at hL
        rw [if_pos h2]
        have h3 : 2 * r + 1 + 1 < hi := by simp at h2; exact h2.1
        rw [sif_J3e h f r (2 * r + 2) (by omega) (by omega)] at hL
        by_cases h4 : (!ltR d[f + r]! d[f + (2 * r + 2)]!) = true
        · rw [if_pos h4] at hL
          rw [if_pos h4]
          exact ⟨loopM_end hL, h⟩
        · rw [if_neg h4] at hL
          rw [if_neg h4, dif_pos (show 2 * r + 2 < hi by omega), loopM_next (s' := ((Sort.swp d (f + r) (f + (2 * r + 2))).toList, ((2 * r + 2 : Nat) : Int))) hL]
          exact ih (2 * r + 2) _ (by omega) (h.swp _ _) (by unfold big; omega)
      · rw [if_neg h2] at hL
        rw [if_neg h2]
        rw [sif_J3e h f r (2 * r + 1) (by omega) (by omega)] at hL
        by_cases h4 : (!ltR d[f + r]! d[f + (2 * r + 1)]!) = true
        · rw [if_pos h4] at hL
          rw [if_pos h4]
          exact ⟨loopM_end hL, h⟩
        · rw [if_neg h4] at hL
          rw [if_neg h4, loopM_next (s' := ((Sort.swp d (f + r) (f + (2 * r + 1))).toList, ((2 * r + 1 : Nat) : Int))) hL]
          exact ih (2 * r + 1) _ (by omega) (h.swp _ _) (by unfold big; omega)
theorem sif_eq {D : List Row} {d : Array Row} (h : Ok D d) (lo hi f : Nat) (hf : f + hi ≤ D.length) (hl : lo < big) : Zk d.toList (lo : Int) (hi : Int) (f : Int) = some (Sort.siftDown ltR hi f lo d).toList ∧ Ok D (Sort.siftDown ltR hi f lo d) := by
  have := sif_in (D := d.toList) hi f (by rw [Array.length_toList, h.s]; exact hf) (hi - lo) lo d (Nat.le_refl _) h.self hl
  unfold Zk
  rw [this.1]
  exact ⟨rfl, h.back this.2⟩
theorem hea_b {D : List Row} (a b : Nat) (hab : a ≤ b) (hb : b ≤ D.length) : ∀ (k : Nat) (d : Array Row), Ok D d → k ≤ D.length + 1 → loopM (fun s : (List Row) × Int => Zi_L1 (a : Int) (b : Int) s.1 s.2) (d.toList, (k : Int) - 1) = some (Sort.heapBuild ltR (b - a) a k d).toList ∧ Ok D (Sort.heapBuild ltR (b - a) a k d) := by
  intro k
  induction k with
  | zero =>
    intro d h hk
    refine ⟨loopM_end ?_, h⟩
    show Zi_L1 (a : Int) (b : Int) d.toList ((0 : Nat) - 1 : Int) = _
    unfold Zi_L1
    rw [if_neg (by decide)]
    rfl
  | succ k ih =>
    intro d h hk
    have hb' := h.b
    unfold big at hb'
    have e0 : ((k + 1 : Nat) : Int) - 1 = (k : Int) := by omega
    have hs := sif_eq h k (b - a) a (by omega) (by unfold big; omega)
    have hf : Zi_L1 (a : Int) (b : Int) d.toList (k : Int) = some (.inl ((Sort.siftDown ltR (b - a) a k d).toList, (k : Int) - 1)) := by
      unfold Zi_L1
      rw [if_pos (by simp), w64n (k := b - a) (by omega) (by unfold big; omega), hs.1, Option.bind_some, w64_id (by omega) (by omega)]
    rw [e0, loopM_next (s' := ((Sort.siftDown ltR (b - a) a k d).toList, (k : Int) - 1)) hf]
    exact ih _ hs.2 (by omega)
theorem hea_p {D : List Row} (a n : Nat) (hb : a + n ≤ D.length) : ∀ (k : Nat) (d : Array Row), Ok D d → k ≤ n → loopM (fun s : (List Row) × Int => Zi_L2 D (a : Int) s.1 s.2) (d.toList, (k : Int) - 1) = some (Sort.heapPop ltR a k d).toList ∧ Ok D (Sort.heapPop ltR a k d) := by
  intro k
  induction k with
  | zero =>
    intro d h hk
    refine ⟨loopM_end ?_, h⟩
    show Zi_L2 D (a : Int) d.toList ((0 : Nat) - 1 : Int) = _
    unfold Zi_L2
    rw [if_neg (by decide)]
    rfl
  | succ k ih =>
    intro d h hk
    have hb' := h.b
    unfold big at hb'
    have e0 : ((k + 1 : Nat) : Int) - 1 = (k : Int) := by omega
    have hs := sif_eq (h.swp a (a + k)) 0 k a (by omega) (by decide)
    have hf : Zi_L2 D (a : Int) d.toList (k : Int) = some (.inl ((Sort.siftDown ltR k a 0 (Sort.swp d a (a + k))).toList, (k : Int) - 1)) := by
      unfold Zi_L2
      rw [if_pos (by simp), w64n (k := a + k) (by omega) (by unfold big; omega), if_pos ⟨by omega, by omega⟩, if_pos ⟨by omega, by omega⟩]
      simp only [ix_arr, Int.toNat_natCast, swp_list, nm_bind]
      rw [show (0 : Int) = ((0 : Nat) : Int) from rfl, hs.1, Option.bind_some, w64_id (by omega) (by omega)]
    rw [e0, loopM_next (s' := ((Sort.siftDown ltR k a 0 (Sort.swp d a (a + k))).toList, (k : Int) - 1)) hf]
    exact ih _ hs.2 (by omega)
theorem hea_eq {D : List Row} {d : Array Row} (h : Ok D d) (a b : Nat) (hb : b ≤ D.length) (ha : a < b) : Zi d.toList (a : Int) (b : Int) = some (Sort.heapSort ltR d a b).toList ∧ Ok D (Sort.heapSort ltR d a b) := by
  have hb' := h.b
  unfold big at hb'
  have h1 := hea_b (D := d.toList) a b (by omega) (by rw [Array.length_toList, h.s]; exact hb) ((b - a - 1) / 2 + 1) d h.self (by rw [Array.length_toList, h.s]; omega)
  have h2 := hea_p (D := d.toList) a (b - a) (by rw [Array.length_toList, h.s]; omega) (b - a) _ h1.2 (Nat.le_refl _)
  unfold Zi
  have e1 : w64 ((b : Int) - (a : Int)) = ((b - a : Nat) : Int) := w64n (by omega) (by unfold big; omega)
  have e2 : w64 (((b - a : Nat) : Int) - 1) = ((b - a : Nat) : Int) - 1 := w64_id (by omega) (by omega)
  have e3 : w64 ((((b - a : Nat) : Int) - 1).tdiv 2) = (((b - a - 1) / 2 + 1 : Nat) : Int) - 1 := by
    rw [show ((b - a : Nat) : Int) - 1 = ((b - a - 1 : Nat) : Int) by omega, show (2 : Int) = ((2 : Nat) : Int) from rfl, ← Int.ofNat_tdiv, w64_id (by omega) (by omega)]
    omega
  rw [e1, e2, e3, h1.1, Option.bind_some]
  unfold Zi_J1
  rw [e1, e2, h2.1]
  exact ⟨rfl, h.back h2.2⟩
theorem rev_in {D : List Row} : ∀ (m i j : Nat) (d : Array Row), j - i ≤ m → Ok D d → j < D.length → loopM (fun s : (List Row) × Int × Int => Z0d_L1 D s.1 s.2.1 s.2.2) (d.toList, (i : Int), (j : Int)) = some (Sort.reverseLoop i j d).toList ∧ Ok D (Sort.reverseLoop i j d) := by
  intro m
  induction m with
  | zero =>
    intro i j d hm h hj
    rw [Sort.reverseLoop, if_neg (by omega)]
    refine ⟨loopM_end ?_, h⟩
    show Z0d_L1 D d.toList (i : Int) (j : Int) = _
    unfold Z0d_L1
    rw [if_neg (by simp; omega)]
  | succ m ih =>
    intro i j d hm h hj
    rw [Sort.reverseLoop]
    by_cases hij : i < j
    · rw [if_pos hij]
      have hb := h.b
      unfold big at hb
      have hf : Z0d_L1 D d.toList (i : Int) (j : Int) = some (.inl ((Sort.swp d i j).toList, ((i + 1 : Nat) : Int), ((j - 1 : Nat) : Int))) := by
        unfold Z0d_L1
        rw [if_pos (by simpa using hij), if_pos ⟨by omega, by omega⟩, if_pos ⟨by omega, by omega⟩]
        simp only [ix_arr, Int.toNat_natCast, swp_list, nm_bind]
        rw [w64k (by unfold big; omega), w64n (k := j - 1) (by omega) (by unfold big; omega)]
      rw [loopM_next (s' := ((Sort.swp d i j).toList, ((i + 1 : Nat) : Int), ((j - 1 : Nat) : Int))) hf]
      exact ih _ _ _ (by omega) (h.swp _ _) (by omega)
    · rw [if_neg hij]
      refine ⟨loopM_end ?_, h⟩
      show Z0d_L1 D d.toList (i : Int) (j : Int) = _
      unfold Z0d_L1
      rw [if_neg (by simp; omega)]
theorem rev_eq {D : List Row} {d : Array Row} (h : Ok D d) (a b : Nat) (hb : b ≤ D.length) (ha : a < b) : Z0d d.toList (a : Int) (b : Int) = some (Sort.reverseRange d a b).toList ∧ Ok D (Sort.reverseRange d a b) := by
  have hb' := h.b
  unfold big at hb'
  have := rev_in (D := d.toList) (b - 1 - a) a (b - 1) d (Nat.le_refl _) h.self (by rw [Array.length_toList, h.s]; omega)
  unfold Z0d
  rw [w64n (k := b - 1) (by omega) (by unfold big; omega), this.1]
  exact ⟨rfl, h.back this.2⟩
theorem orT_eq {D : List Row} {d : Array Row} (h : Ok D d) (a b s : Nat) (ha : a < D.length) (hb : b < D.length) (hs : s < 1000) :
    Z0t d.toList (a : Int) (b : Int) (s : Int) = some (((Sort.order2 ltR d a b s).1 : Int), ((Sort.order2 ltR d a b s).2.1 : Int), ((Sort.order2 ltR d a b s).2.2 : Int)) := by
  have hl : d.toList.length = D.length := by rw [Array.length_toList, h.s]
  unfold Z0t
  rw [if_pos ⟨by omega, by omega⟩, if_pos ⟨by omega, by omega⟩, w64k (by unfold big; omega)]
  simp only [ix_arr, cmpA h.g, Option.bind_some]
  unfold Sort.order2
  by_cases h2 : ltR d[b]! d[a]! = true
  · rw [if_pos h2, if_pos h2]
  · rw [if_neg h2, if_neg h2]
theorem orT_lt {d : Array Row} {n a b s : Nat} (ha : a < n) (hb : b < n) : (Sort.order2 ltR d a b s).1 < n ∧ (Sort.order2 ltR d a b s).2.1 < n := by
  rcases Sort.order2_mem ltR d a b s with h | h <;> rw [h.1, h.2] <;> exact ⟨by assumption, by assumption⟩
theorem med_eq {D : List Row} {d : Array Row} (h : Ok D d) (a b c s : Nat) (ha : a < D.length) (hb : b < D.length) (hc : c < D.length) (hs : s < 990) :
    Z13 d.toList (a : Int) (b : Int) (c : Int) (s : Int) = some (((Sort.median ltR d a b c s).1 : Int), ((Sort.median ltR d a b c s).2 : Int)) := by
  unfold Z13 Sort.median
  have c1 := Sort.order2_count ltR d a b s
  have l1 := orT_lt (d := d) (s := s) ha hb
  rw [orT_eq h a b s ha hb (by omega), Option.bind_some]
  have c2 := Sort.order2_count ltR d (Sort.order2 ltR d a b s).2.1 c (Sort.order2 ltR d a b s).2.2
  have l2 := orT_lt (d := d) (s := (Sort.order2 ltR d a b s).2.2) l1.2 hc
  rw [orT_eq h _ c _ l1.2 hc (by omega), Option.bind_some]
  rw [orT_eq h _ _ _ l1.1 l2.1 (by omega), Option.bind_some]
theorem med_lt {d : Array Row} {n a b c s : Nat} (ha : a < n) (hb : b < n) (hc : c < n) : (Sort.median ltR d a b c s).1 < n := by
  rcases Sort.median_mem ltR d a b c s with h | h | h <;> rw [h] <;> assumption
theorem mea_eq {D : List Row} {d : Array Row} (h : Ok D d) (a s : Nat) (h0 : 1 ≤ a) (ha : a + 1 < D.length) (hs : s < 990) :
    Z0s d.toList (a : Int) (s : Int) = some (((Sort.medianAdjacent ltR d a s).1 : Int), ((Sort.medianAdjacent ltR d a s).2 : Int)) := by
  have hb := h.b
  unfold Z0s Sort.medianAdjacent
  rw [w64n (k := a - 1) (by omega) (by omega), w64k (by omega), med_eq h _ _ _ _ (by omega) (by omega) (by omega) hs, Option.bind_some]
theorem mea_lt {d : Array Row} {n a s : Nat} (ha : a + 1 < n) : (Sort.medianAdjacent ltR d a s).1 < n := med_lt (by omega) (by omega) (by omega)
def hn : Sort.Hint → Int
  | .unknown => 0
  | .increasing => 1
  | .decreasing => 2
theorem chp_J2e (s j : Nat) : Z03_J2 (s : Int) (j : Int) = some ((j : Int), hn (if s = 0 then .increasing else if s = 12 then .decreasing else .unknown)) := by
  unfold Z03_J2
  by_cases h : s = 0
  · subst h; rfl
  · rw [if_neg (by simp; omega), if_neg h]
    by_cases h2 : s = 12
    · subst h2; rfl
    · rw [if_neg (by simp; omega), if_neg h2]; rfl
theorem chp_eq {D : List Row} {d : Array Row} (h : Ok D d) (a b : Nat) (hb : b ≤ D.length) (hl : 12 < b - a) :
    Z03 d.toList (a : Int) (b : Int) = some (((Sort.choosePivot ltR d a b).1 : Int), hn (Sort.choosePivot ltR d a b).2) := by
  have hb' := h.b
  unfold big at hb'
  have e0 : w64 ((b : Int) - (a : Int)) = ((b - a : Nat) : Int) := w64n (by omega) (by unfold big; omega)
  have e1 : w64 (((b - a : Nat) : Int).tdiv 4) = (((b - a) / 4 : Nat) : Int) := by
    rw [show (4 : Int) = ((4 : Nat) : Int) from rfl, ← Int.ofNat_tdiv, w64_id (by omega) (by omega)]
  have e2 : ∀ k : Nat, k ≤ 3 → w64 ((a : Int) + w64 ((((b - a) / 4 : Nat) : Int) * (k : Int))) = ((a + (b - a) / 4 * k : Nat) : Int) := fun k hk => by
    have : (b - a) / 4 * k ≤ (b - a) / 4 * 3 := Nat.mul_le_mul_left _ hk
    rw [w64n (x := (((b - a) / 4 : Nat) : Int) * (k : Int)) (k := (b - a) / 4 * k) (by simp) (by unfold big; omega), w64n (k := a + (b - a) / 4 * k) (by omega) (by unfold big; omega)]
  have f1 := e2 1 (by omega)
  have f2 := e2 2 (by omega)
  have f3 := e2 3 (by omega)
  unfold Z03
  rw [e0, e1]
  simp only [Int.cast_ofNat_Int] at f1 f2 f3
  rw [if_pos (by simp; omega)]
  rw [show (1 : Int) = ((1 : Nat) : Int) from rfl, e2 1 (by omega), show (2 : Int) = ((2 : Nat) : Int) from rfl, e2 2 (by omega), show (3 : Int) = ((3 : Nat) : Int) from rfl, e2 3 (by omega)]
  rw [Sort.choosePivot_eq]
  unfold Sort.rawPivot
  rw [if_pos (show b - a ≥ 8 by omega)]
  by_cases h50 : b - a ≥ 50
  · rw [if_pos (by simp; omega), if_pos h50]
    rw [show (0 : Int) = ((0 : Nat) : Int) from rfl]
    have m1 := Sort.medianAdjacent_count ltR d (a + (b - a) / 4 * 1) 0
    have m2 := Sort.medianAdjacent_count ltR d (a + (b - a) / 4 * 2) (Sort.medianAdjacent ltR d (a + (b - a) / 4 * 1) 0).2
    have m3 := Sort.medianAdjacent_count ltR d (a + (b - a) / 4 * 3) (Sort.medianAdjacent ltR d (a + (b - a) / 4 * 2) (Sort.medianAdjacent ltR d (a + (b - a) / 4 * 1) 0).2).2
    rw [mea_eq h _ _ (by omega) (by omega) (by omega), Option.bind_some]
    rw [mea_eq h _ _ (by omega) (by omega) (by omega), Option.bind_some]
    rw [mea_eq h _ _ (by omega) (by omega) (by omega), Option.bind_some]
    unfold Z03_J1
    rw [med_eq h _ _ _ _ (mea_lt (by omega)) (mea_lt (by omega)) (mea_lt (by omega)) (by omega), Option.bind_some, chp_J2e]
    rfl
  · rw [if_neg (by simp; omega), if_neg h50]
    unfold Z03_J1
    rw [show (0 : Int) = ((0 : Nat) : Int) from rfl]
    rw [med_eq h _ _ _ _ (by omega) (by omega) (by omega) (by omega), Option.bind_some, chp_J2e]
    rfl
theorem upL {f : Int → Option (Int ⊕ Int)} (p : Row → Bool) (d : Array Row) (j n : Nat) (hj : j < n)
    (hf : ∀ i : Nat, i ≤ n → f (i : Int) = some (if (decide (i ≤ j) && p d[i]!) = true then .inl ((i + 1 : Nat) : Int) else .inr (i : Int))) : ∀ (m i : Nat), n - i ≤ m → i ≤ n → loopM f (i : Int) = some ((Sort.scanUp p d j i : Nat) : Int) := by
  intro m
  induction m with
  | zero =>
    intro i hm hi
    have h1 := hf i hi
    rw [if_neg (by simp; omega)] at h1
    rw [Sort.scanUp, if_neg (by simp; omega), loopM_end h1]
  | succ m ih =>
    intro i hm hi
    have h1 := hf i hi
    rw [Sort.scanUp]
    by_cases h2 : (decide (i ≤ j) && p d[i]!) = true
    · rw [if_pos h2] at h1
      have h3 : i ≤ j := by simp at h2; exact h2.1
      rw [if_pos h2, loopM_next h1]
      exact ih (i + 1) (by omega) (by omega)
    · rw [if_neg h2] at h1
      rw [if_neg h2, loopM_end h1]
theorem dnL {f : Int → Option (Int ⊕ Int)} (p : Row → Bool) (d : Array Row) (i n : Nat) (hi : 1 ≤ i)
    (hf : ∀ j : Nat, j < n → f (j : Int) = some (if (decide (i ≤ j) && p d[j]!) = true then .inl ((j : Int) - 1) else .inr (j : Int))) : ∀ (j : Nat), j < n → loopM f (j : Int) = some ((Sort.scanDown p d i j : Nat) : Int) := by
  intro j
  induction j with
  | zero =>
    intro hj
    have h1 := hf 0 hj
    rw [if_neg (by simp; omega)] at h1
    unfold Sort.scanDown
    exact loopM_end h1
  | succ j ih =>
    intro hj
    have h1 := hf (j + 1) hj
    unfold Sort.scanDown
    by_cases h2 : (decide (i ≤ j + 1) && p d[j + 1]!) = true
    · rw [if_pos h2, show ((j + 1 : Nat) : Int) - 1 = (j : Int) by omega] at h1
      rw [if_pos h2, loopM_next h1]
      exact ih (by omega)
    · rw [if_neg h2] at h1
      rw [if_neg h2, loopM_end h1]
theorem Ok.at {D : List Row} {d : Array Row} (h : Ok D d) {k : Nat} (hk : k ≤ D.length) : (k : Int) < 4611686018427387904 := by have := h.b; unfold big at this; omega
theorem par_L4e {D : List Row} {d : Array Row} (h : Ok D d) (a j i : Nat) (hj : j < D.length) (hi : i ≤ D.length) : Z2_L4 D (a : Int) d.toList (j : Int) (i : Int) = some (if (decide (i ≤ j) && ltR d[i]! d[a]!) = true then .inl ((i + 1 : Nat) : Int) else .inr (i : Int)) := by
  have hb := h.b
  unfold Z2_L4
  by_cases h1 : i ≤ j
  · have e : decide ((i : Int) ≤ (j : Int)) = true := by simpa using h1
    rw [e, if_pos (fun _ => ⟨by omega, by omega⟩), w64k (by omega)]
    simp only [gcall, cond_true, ix_arr, cmpA h.g, Option.bind_some, Bool.true_and, h1, decide_true]
    by_cases h2 : ltR d[i]! d[a]! = true
    · rw [if_pos h2, if_pos h2]
    · rw [if_neg h2, if_neg h2]
  · have e : decide ((i : Int) ≤ (j : Int)) = false := by simpa using h1
    rw [e]
    simp [gcall, h1]
theorem par_L5e {D : List Row} {d : Array Row} (h : Ok D d) (a i j : Nat) (hj : j < D.length) : Z2_L5 D (a : Int) d.toList (i : Int) (j : Int) = some (if (decide (i ≤ j) && !ltR d[j]! d[a]!) = true then .inl ((j : Int) - 1) else .inr (j : Int)) := by
  have hb := h.b
  unfold big at hb
  unfold Z2_L5
  by_cases h1 : i ≤ j
  · have e : decide ((i : Int) ≤ (j : Int)) = true := by simpa using h1
    rw [e, if_pos (fun _ => ⟨by omega, by omega⟩), show w64 ((j : Int) - 1) = (j : Int) - 1 from w64_id (by omega) (by omega)]
    simp only [gcall, cond_true, ix_arr, cmpA h.g, Option.bind_some, Bool.true_and, h1, decide_true]
    by_cases h2 : (!ltR d[j]! d[a]!) = true
    · rw [if_pos h2, if_pos h2]
    · rw [if_neg h2, if_neg h2]
  · have e : decide ((i : Int) ≤ (j : Int)) = false := by simpa using h1
    rw [e]
    simp [gcall, h1]
theorem par_up {D : List Row} {d : Array Row} (h : Ok D d) (a j i : Nat) (hj : j < D.length) (hi : i ≤ D.length) : loopM (fun s : Int => Z2_L4 D (a : Int) d.toList (j : Int) s) (i : Int) = some ((Sort.scanUp (fun x => ltR x d[a]!) d j i : Nat) : Int) :=
  upL _ d j D.length hj (fun i hi => par_L4e h a j i hj hi) D.length i (by omega) hi
theorem par_dn {D : List Row} {d : Array Row} (h : Ok D d) (a i j : Nat) (hi : 1 ≤ i) (hj : j < D.length) : loopM (fun s : Int => Z2_L5 D (a : Int) d.toList (i : Int) s) (j : Int) = some ((Sort.scanDown (fun x => !ltR x d[a]!) d i j : Nat) : Int) :=
  dnL _ d i D.length hi (fun j hj => par_L5e h a i j hj) j hj
theorem par_lp {D : List Row} (a : Nat) : ∀ (m i j : Nat) (d : Array Row), j + 1 - i ≤ m → Ok D d → 1 ≤ i → i ≤ D.length → j < D.length →
    loopM (fun s : (List Row) × Int × Int => Z2_L3 D (a : Int) s.1 s.2.1 s.2.2) (d.toList, (i : Int), (j : Int)) = some ((Sort.partLoop ltR a i j d).2.toList, ((Sort.partLoop ltR a i j d).1 : Int)) ∧ Ok D (Sort.partLoop ltR a i j d).2 ∧ (Sort.partLoop ltR a i j d).1 < D.length := by
  intro m
  induction m with
  | zero =>
    intro i j d hm h h1 hi hj
    have g1 := Sort.scanUp_ge (fun x => ltR x d[a]!) d j i
    have g2 := Sort.scanDown_le (fun x => !ltR x d[a]!) d (Sort.scanUp (fun x => ltR x d[a]!) d j i) j
    have u := par_up h a j i hj hi
    have v := par_dn h a (Sort.scanUp (fun x => ltR x d[a]!) d j i) j (by omega) hj
    rw [Sort.partLoop_eq]
    generalize Sort.scanUp (fun x => ltR x d[a]!) d j i = i2 at *
    generalize Sort.scanDown (fun x => !ltR x d[a]!) d i2 j = j2 at *
    rw [if_pos (by omega)]
    refine ⟨loopM_end ?_, h, by show j2 < _; omega⟩
    show Z2_L3 D (a : Int) d.toList (i : Int) (j : Int) = _
    unfold Z2_L3
    rw [u, Option.bind_some]
    unfold Z2_J5
    rw [v, Option.bind_some]
    unfold Z2_J6
    rw [if_pos (by simp; omega)]
  | succ m ih =>
    intro i j d hm h h1 hi hj
    have g1 := Sort.scanUp_ge (fun x => ltR x d[a]!) d j i
    have g2 := Sort.scanDown_le (fun x => !ltR x d[a]!) d (Sort.scanUp (fun x => ltR x d[a]!) d j i) j
    have u := par_up h a j i hj hi
    have v := par_dn h a (Sort.scanUp (fun x => ltR x d[a]!) d j i) j (by omega) hj
    rw [Sort.partLoop_eq]
    generalize Sort.scanUp (fun x => ltR x d[a]!) d j i = i2 at *
    generalize Sort.scanDown (fun x => !ltR x d[a]!) d i2 j = j2 at *
    have hb := h.b
    by_cases h3 : i2 > j2
    · rw [if_pos h3]
      refine ⟨loopM_end ?_, h, by show j2 < _; omega⟩
      show Z2_L3 D (a : Int) d.toList (i : Int) (j : Int) = _
      unfold Z2_L3
      rw [u, Option.bind_some]
      unfold Z2_J5
      rw [v, Option.bind_some]
      unfold Z2_J6
      rw [if_pos (by simp; omega)]
    · rw [if_neg h3]
      have hf : Z2_L3 D (a : Int) d.toList (i : Int) (j : Int) = some (.inl ((Sort.swp d i2 j2).toList, ((i2 + 1 : Nat) : Int), ((j2 - 1 : Nat) : Int))) := by
        unfold Z2_L3
        rw [u, Option.bind_some]
        unfold Z2_J5
        rw [v, Option.bind_some]
        unfold Z2_J6
        rw [if_neg (by simp; omega), if_pos ⟨by omega, by omega⟩, if_pos ⟨by omega, by omega⟩]
        simp only [ix_arr, Int.toNat_natCast, swp_list, nm_bind]
        rw [w64k (by omega), w64n (k := j2 - 1) (by omega) (by omega)]
      rw [loopM_next (s' := ((Sort.swp d i2 j2).toList, ((i2 + 1 : Nat) : Int), ((j2 - 1 : Nat) : Int))) hf]
      exact ih _ _ _ (by omega) (h.swp _ _) (by omega) (by omega) (by omega)
theorem par_eq {D : List Row} {d : Array Row} (h : Ok D d) (a b p : Nat) (hb : b ≤ D.length) (ha : a < b) (hp : p < b) :
    Z2 d.toList (a : Int) (b : Int) (p : Int) = some (((Sort.partition ltR d a b p).1 : Int), (Sort.partition ltR d a b p).2.1, (Sort.partition ltR d a b p).2.2.toList) ∧ Ok D (Sort.partition ltR d a b p).2.2 := by
  have hb' := h.b
  have hl : d.toList.length = D.length := by rw [Array.length_toList, h.s]
  have hs := h.self.swp a p
  have u := par_up hs a (b - 1) (a + 1) (by omega) (by omega)
  have g1 := Sort.scanUp_ge (fun x => ltR x (Sort.swp d a p)[a]!) (Sort.swp d a p) (b - 1) (a + 1)
  have g2 := Sort.scanDown_le (fun x => !ltR x (Sort.swp d a p)[a]!) (Sort.swp d a p) (Sort.scanUp (fun x => ltR x (Sort.swp d a p)[a]!) (Sort.swp d a p) (b - 1) (a + 1)) (b - 1)
  have v := par_dn hs a (Sort.scanUp (fun x => ltR x (Sort.swp d a p)[a]!) (Sort.swp d a p) (b - 1) (a + 1)) (b - 1) (by omega) (by omega)
  have e1 : w64 ((b : Int) - 1) = ((b - 1 : Nat) : Int) := w64n (by omega) (by omega)
  unfold Z2 Sort.partition
  simp only []
  rw [if_pos ⟨by omega, by omega⟩, if_pos ⟨by omega, by omega⟩, w64k (by omega)]
  simp only [ix_arr, Int.toNat_natCast, swp_list, nm_bind]
  rw [show loopM (fun s : Int => Z2_L1 d.toList (a : Int) (b : Int) (Sort.swp d a p).toList s) ((a + 1 : Nat) : Int) = loopM (fun s : Int => Z2_L4 d.toList (a : Int) (Sort.swp d a p).toList ((b - 1 : Nat) : Int) s) ((a + 1 : Nat) : Int) by rw [← e1]; rfl, u, Option.bind_some]
  unfold Z2_J1
  rw [e1]
  rw [show ∀ i : Nat, loopM (fun s : Int => Z2_L2 d.toList (a : Int) (Sort.swp d a p).toList (i : Int) s) ((b - 1 : Nat) : Int) = loopM (fun s : Int => Z2_L5 d.toList (a : Int) (Sort.swp d a p).toList (i : Int) s) ((b - 1 : Nat) : Int) from fun _ => rfl, v, Option.bind_some]
  unfold Z2_J2
  generalize Sort.scanUp (fun x => ltR x (Sort.swp d a p)[a]!) (Sort.swp d a p) (b - 1) (a + 1) = i2 at *
  generalize Sort.scanDown (fun x => !ltR x (Sort.swp d a p)[a]!) (Sort.swp d a p) i2 (b - 1) = j2 at *
  by_cases h3 : i2 > j2
  · rw [if_pos (by simp; omega), if_pos ⟨by omega, by omega⟩, if_pos h3]
    simp only [ix_arr, Int.toNat_natCast, swp_list]
    exact ⟨trivial, h.back (hs.swp _ _)⟩
  · rw [if_neg (by simp; omega), if_pos ⟨by omega, by omega⟩, if_pos ⟨by omega, by omega⟩, if_neg h3]
    simp only [ix_arr, Int.toNat_natCast, swp_list, nm_bind]
    rw [w64k (by omega), w64n (k := j2 - 1) (by omega) (by omega)]
    have lp := par_lp (D := d.toList) a (j2 - 1 + 1 - (i2 + 1)) (i2 + 1) (j2 - 1) _ (Nat.le_refl _) (hs.swp i2 j2) (by omega) (by omega) (by omega)
    rw [lp.1, Option.bind_some]
    unfold Z2_J7
    rw [if_pos ⟨by omega, by have := lp.2.2; omega⟩]
    simp only [ix_arr, Int.toNat_natCast, swp_list, nm_bind]
    exact ⟨trivial, h.back (lp.2.1.swp _ _)⟩
theorem peq_L2e {D : List Row} {d : Array Row} (h : Ok D d) (a j i : Nat) (hj : j < D.length) (hi : i ≤ D.length) : Z8_L2 D (a : Int) d.toList (j : Int) (i : Int) = some (if (decide (i ≤ j) && !ltR d[a]! d[i]!) = true then .inl ((i + 1 : Nat) : Int) else .inr (i : Int)) := by
  have hb := h.b
  unfold Z8_L2
  by_cases h1 : i ≤ j
  · have e : decide ((i : Int) ≤ (j : Int)) = true := by simpa using h1
    rw [e, if_pos (fun _ => ⟨by omega, by omega⟩), w64k (by omega)]
    simp only [gcall, cond_true, ix_arr, cmpA h.g, Option.bind_some, Bool.true_and, h1, decide_true]
    by_cases h2 : (!ltR d[a]! d[i]!) = true
    · rw [if_pos h2, if_pos h2]
    · rw [if_neg h2, if_neg h2]
  · have e : decide ((i : Int) ≤ (j : Int)) = false := by simpa using h1
    rw [e]
    simp [gcall, h1]
theorem peq_L3e {D : List Row} {d : Array Row} (h : Ok D d) (a i j : Nat) (hj : j < D.length) : Z8_L3 D (a : Int) d.toList (i : Int) (j : Int) = some (if (decide (i ≤ j) && ltR d[a]! d[j]!) = true then .inl ((j : Int) - 1) else .inr (j : Int)) := by
  have hb := h.b
  unfold big at hb
  unfold Z8_L3
  by_cases h1 : i ≤ j
  · have e : decide ((i : Int) ≤ (j : Int)) = true := by simpa using h1
    rw [e, if_pos (fun _ => ⟨by omega, by omega⟩), show w64 ((j : Int) - 1) = (j : Int) - 1 from w64_id (by omega) (by omega)]
    simp only [gcall, cond_true, ix_arr, cmpA h.g, Option.bind_some, Bool.true_and, h1, decide_true]
    by_cases h2 : ltR d[a]! d[j]! = true
    · rw [if_pos h2, if_pos h2]
    · rw [if_neg h2, if_neg h2]
  · have e : decide ((i : Int) ≤ (j : Int)) = false := by simpa using h1
    rw [e]
    simp [gcall, h1]
theorem peq_lp {D : List Row} (a : Nat) : ∀ (m i j : Nat) (d : Array Row), j + 1 - i ≤ m → Ok D d → 1 ≤ i → i ≤ D.length → j < D.length →
    loopM (fun s : (List Row) × Int × Int => Z8_L1 D (a : Int) s.1 s.2.1 s.2.2) (d.toList, (i : Int), (j : Int)) = some (((Sort.partEqLoop ltR a i j d).1 : Int), (Sort.partEqLoop ltR a i j d).2.toList) ∧ Ok D (Sort.partEqLoop ltR a i j d).2 := by
  intro m
  induction m with
  | zero =>
    intro i j d hm h h1 hi hj
    have g1 := Sort.scanUp_ge (fun x => !ltR d[a]! x) d j i
    have g2 := Sort.scanDown_le (fun x => ltR d[a]! x) d (Sort.scanUp (fun x => !ltR d[a]! x) d j i) j
    have u := upL (fun x => !ltR d[a]! x) d j D.length hj (fun i hi => peq_L2e h a j i hj hi) D.length i (by omega) hi
    have v := dnL (fun x => ltR d[a]! x) d (Sort.scanUp (fun x => !ltR d[a]! x) d j i) D.length (by omega) (fun j hj => peq_L3e h a _ j hj) j hj
    rw [Sort.partEqLoop_eq]
    generalize Sort.scanUp (fun x => !ltR d[a]! x) d j i = i2 at *
    generalize Sort.scanDown (fun x => ltR d[a]! x) d i2 j = j2 at *
    rw [if_pos (by omega)]
    refine ⟨loopM_end ?_, h⟩
    show Z8_L1 D (a : Int) d.toList (i : Int) (j : Int) = _
    unfold Z8_L1
    rw [u, Option.bind_some]
    unfold Z8_J3
    rw [v, Option.bind_some]
    unfold Z8_J4
    rw [if_pos (by simp; omega)]
  | succ m ih =>
    intro i j d hm h h1 hi hj
    have g1 := Sort.scanUp_ge (fun x => !ltR d[a]! x) d j i
    have g2 := Sort.scanDown_le (fun x => ltR d[a]! x) d (Sort.scanUp (fun x => !ltR d[a]! x) d j i) j
    have u := upL (fun x => !ltR d[a]! x) d j D.length hj (fun i hi => peq_L2e h a j i hj hi) D.length i (by omega) hi
    have v := dnL (fun x => ltR d[a]! x) d (Sort.scanUp (fun x => !ltR d[a]! x) d j i) D.length (by omega) (fun j hj => peq_L3e h a _ j hj) j hj
    rw [Sort.partEqLoop_eq]
    generalize Sort.scanUp (fun x => !ltR d[a]! x) d j i = i2 at *
    generalize Sort.scanDown (fun x => ltR d[a]! x) d i2 j = j2 at *
    have hb := h.b
    by_cases h3 : i2 > j2
    · rw [if_pos h3]
      refine ⟨loopM_end ?_, h⟩
      show Z8_L1 D (a : Int) d.toList (i : Int) (j : Int) = _
      unfold Z8_L1
      rw [u, Option.bind_some]
      unfold Z8_J3
      rw [v, Option.bind_some]
      unfold Z8_J4
      rw [if_pos (by simp; omega)]
    · rw [if_neg h3]
      have hf : Z8_L1 D (a : Int) d.toList (i : Int) (j : Int) = some (.inl ((Sort.swp d i2 j2).toList, ((i2 + 1 : Nat) : Int), ((j2 - 1 : Nat) : Int))) := by
        unfold Z8_L1
        rw [u, Option.bind_some]
        unfold Z8_J3
        rw [v, Option.bind_some]
        unfold Z8_J4
        rw [if_neg (by simp; omega), if_pos ⟨by omega, by omega⟩, if_pos ⟨by omega, by omega⟩]
        simp only [ix_arr, Int.toNat_natCast, swp_list, nm_bind]
        rw [w64k (by omega), w64n (k := j2 - 1) (by omega) (by omega)]
      rw [loopM_next (s' := ((Sort.swp d i2 j2).toList, ((i2 + 1 : Nat) : Int), ((j2 - 1 : Nat) : Int))) hf]
      exact ih _ _ _ (by omega) (h.swp _ _) (by omega) (by omega) (by omega)
theorem peq_eq {D : List Row} {d : Array Row} (h : Ok D d) (a b p : Nat) (hb : b ≤ D.length) (ha : a < b) (hp : p < b) :
    Z8 d.toList (a : Int) (b : Int) (p : Int) = some (((Sort.partitionEqual ltR d a b p).1 : Int), (Sort.partitionEqual ltR d a b p).2.toList) ∧ Ok D (Sort.partitionEqual ltR d a b p).2 := by
  have hb' := h.b
  have hl : d.toList.length = D.length := by rw [Array.length_toList, h.s]
  have lp := peq_lp (D := d.toList) a (b - 1 + 1 - (a + 1)) (a + 1) (b - 1) _ (Nat.le_refl _) (h.self.swp a p) (by omega) (by omega) (by omega)
  unfold Z8 Sort.partitionEqual
  rw [if_pos ⟨by omega, by omega⟩, if_pos ⟨by omega, by omega⟩, w64k (by omega), w64n (k := b - 1) (by omega) (by omega)]
  simp only [ix_arr, Int.toNat_natCast, swp_list, nm_bind]
  rw [lp.1]
  exact ⟨rfl, h.back lp.2⟩
theorem pis_dn {D : List Row} : ∀ (j : Nat) (d : Array Row), Ok D d → j < D.length → loopM (fun s : (List Row) × Int => Z3_L3 D s.1 s.2) (d.toList, (j : Int)) = some (Sort.shiftDown ltR j d).toList ∧ Ok D (Sort.shiftDown ltR j d) := by
  intro j
  induction j with
  | zero =>
    intro d h hj
    refine ⟨loopM_end ?_, h⟩
    show Z3_L3 D d.toList ((0 : Nat) : Int) = _
    unfold Z3_L3
    rw [if_neg (by decide)]
    rfl
  | succ j ih =>
    intro d h hj
    have hb := h.b
    have hf : Z3_L3 D d.toList ((j + 1 : Nat) : Int) = some (if (!ltR d[j + 1]! d[j]!) = true then .inr d.toList else .inl ((Sort.swp d (j + 1) j).toList, (j : Int))) := by
      unfold Z3_L3
      rw [w64m (by omega), if_pos (by simp; omega), if_pos ⟨by omega, by omega⟩, if_pos ⟨by omega, by omega⟩]
      simp only [ix_arr, Int.toNat_natCast, swp_list, nm_bind, cmpA h.g, Option.bind_some]
      split <;> rfl
    unfold Sort.shiftDown
    by_cases h1 : (!ltR d[j + 1]! d[j]!) = true
    · rw [if_pos h1] at hf
      rw [if_pos h1]
      exact ⟨loopM_end hf, h⟩
    · rw [if_neg h1] at hf
      rw [if_neg h1, loopM_next (s' := ((Sort.swp d (j + 1) j).toList, (j : Int))) hf]
      exact ih _ (h.swp _ _) (by omega)
theorem pis_up {D : List Row} (b : Nat) (i : Int) (hbD : b ≤ D.length) : ∀ (m j : Nat) (d : Array Row), b - j ≤ m → Ok D d → 1 ≤ j → loopM (fun s : (List Row) × Int => Z3_L4 D (b : Int) i s.1 s.2) (d.toList, (j : Int)) = some ((Sort.shiftUp ltR b j d).toList, i) ∧ Ok D (Sort.shiftUp ltR b j d) := by
  intro m
  induction m with
  | zero =>
    intro j d hm h h1
    rw [Sort.shiftUp, if_neg (by omega)]
    refine ⟨loopM_end ?_, h⟩
    show Z3_L4 D (b : Int) i d.toList (j : Int) = _
    unfold Z3_L4
    rw [if_neg (by simp; omega)]
  | succ m ih =>
    intro j d hm h h1
    have hb := h.b
    rw [Sort.shiftUp]
    by_cases hj : j < b
    · rw [if_pos hj]
      have hf : Z3_L4 D (b : Int) i d.toList (j : Int) = some (if (!ltR d[j]! d[j - 1]!) = true then .inr (d.toList, i) else .inl ((Sort.swp d j (j - 1)).toList, ((j + 1 : Nat) : Int))) := by
        unfold Z3_L4
        rw [w64n (x := (j : Int) - 1) (k := j - 1) (by omega) (by omega), w64k (by omega), if_pos (by simp; omega), if_pos ⟨by omega, by omega⟩, if_pos ⟨by omega, by omega⟩]
        simp only [ix_arr, Int.toNat_natCast, swp_list, nm_bind, cmpA h.g, Option.bind_some]
        split <;> rfl
      by_cases h2 : (!ltR d[j]! d[j - 1]!) = true
      · rw [if_pos h2] at hf
        rw [if_pos h2]
        exact ⟨loopM_end hf, h⟩
      · rw [if_neg h2] at hf
        rw [if_neg h2, loopM_next (s' := ((Sort.swp d j (j - 1)).toList, ((j + 1 : Nat) : Int))) hf]
        exact ih _ _ (by omega) (h.swp _ _) (by omega)
    · rw [if_neg hj]
      refine ⟨loopM_end ?_, h⟩
      show Z3_L4 D (b : Int) i d.toList (j : Int) = _
      unfold Z3_L4
      rw [if_neg (by simp; omega)]
theorem pis_sc {D : List Row} {d : Array Row} (h : Ok D d) (b : Nat) (hbD : b ≤ D.length) : ∀ (m i : Nat), b - i ≤ m → 1 ≤ i → i ≤ b → loopM (fun s : Int => Z3_L2 D (b : Int) d.toList s) (i : Int) = some ((Sort.scanSorted ltR d b i : Nat) : Int) ∧ i ≤ Sort.scanSorted ltR d b i ∧ Sort.scanSorted ltR d b i ≤ b := by
  intro m
  induction m with
  | zero =>
    intro i hm h1 h2
    rw [Sort.scanSorted, if_neg (by simp; omega)]
    refine ⟨loopM_end ?_, Nat.le_refl _, h2⟩
    unfold Z3_L2
    have e : decide ((i : Int) < (b : Int)) = false := by simp; omega
    rw [e]
    simp [gcall]
  | succ m ih =>
    intro i hm h1 h2
    have hb := h.b
    have hf : Z3_L2 D (b : Int) d.toList (i : Int) = some (if (decide (i < b) && !ltR d[i]! d[i - 1]!) = true then .inl ((i + 1 : Nat) : Int) else .inr (i : Int)) := by
      unfold Z3_L2
      by_cases h3 : i < b
      · have e : decide ((i : Int) < (b : Int)) = true := by simpa using h3
        rw [w64n (x := (i : Int) - 1) (k := i - 1) (by omega) (by omega), w64k (by omega), e, if_pos (fun _ => ⟨by omega, by omega⟩), if_pos (fun _ => ⟨by omega, by omega⟩)]
        simp only [gcall, cond_true, ix_arr, cmpA h.g, Option.bind_some, Bool.true_and, h3, decide_true]
        split <;> rfl
      · have e : decide ((i : Int) < (b : Int)) = false := by simpa using h3
        rw [e]
        simp [gcall, h3]
    rw [Sort.scanSorted]
    by_cases h3 : (decide (i < b) && !ltR d[i]! d[i - 1]!) = true
    · rw [if_pos h3] at hf
      have h4 : i < b := by simp at h3; exact h3.1
      rw [if_pos h3, loopM_next hf]
      have := ih (i + 1) (by omega) (by omega) (by omega)
      exact ⟨this.1, by omega, this.2.2⟩
    · rw [if_neg h3] at hf
      rw [if_neg h3]
      exact ⟨loopM_end hf, Nat.le_refl _, h2⟩
theorem pis_lp {D : List Row} (a b : Nat) (hbD : b ≤ D.length) : ∀ (s j i : Nat) (d : Array Row), j + s = 5 → Ok D d → a < i → i ≤ b →
    (loopM (fun s : (List Row) × Int × Int => Z3_L1 D (a : Int) (b : Int) s.1 s.2.1 s.2.2) (d.toList, (i : Int), (j : Int))).bind (fun e => match e with | .inl e => some e | .inr e => Z3_J8 e) = some ((Sort.partialIns ltR a b s i d).2, (Sort.partialIns ltR a b s i d).1.toList) ∧ Ok D (Sort.partialIns ltR a b s i d).1 := by
  intro s
  induction s with
  | zero =>
    intro j i d hj h h1 h2
    refine ⟨?_, h⟩
    rw [loopM_end (r := .inr d.toList) (by
      show Z3_L1 D (a : Int) (b : Int) d.toList (i : Int) (j : Int) = _
      unfold Z3_L1
      rw [if_neg (by simp; omega)])]
    rfl
  | succ s ih =>
    intro j i d hj h h1 h2
    have hb := h.b
    obtain ⟨s1, s2, s3⟩ := pis_sc h b hbD (b - i) i (Nat.le_refl _) (by omega) h2
    rw [Sort.partialIns_succ]
    generalize Sort.scanSorted ltR d b i = i2 at *
    have hL : Z3_L1 D (a : Int) (b : Int) d.toList (i : Int) (j : Int) = Z3_J5 D (a : Int) (b : Int) d.toList (j : Int) (i2 : Int) := by
      unfold Z3_L1
      rw [if_pos (by simp; omega), s1]; rfl
    by_cases h3 : i2 = b
    · rw [if_pos h3]
      refine ⟨?_, h⟩
      rw [loopM_end (r := .inl (true, d.toList)) (by
        refine Eq.trans hL ?_
        unfold Z3_J5
        rw [if_pos (by simp; omega)])]
      rfl
    · rw [if_neg h3]
      have e1 : w64 ((b : Int) - (a : Int)) = ((b - a : Nat) : Int) := w64n (by omega) (by omega)
      by_cases h4 : b - a < 50
      · rw [if_pos h4]
        refine ⟨?_, h⟩
        rw [loopM_end (r := .inl (false, d.toList)) (by
          refine Eq.trans hL ?_
          unfold Z3_J5
          rw [if_neg (by simp; omega), e1, if_pos (by simp; omega)])]
        rfl
      · rw [if_neg h4]
        have e2 : w64 ((i2 : Int) - 1) = ((i2 - 1 : Nat) : Int) := w64n (by omega) (by omega)
        have e3 : w64 ((i2 : Int) - (a : Int)) = ((i2 - a : Nat) : Int) := w64n (by omega) (by omega)
        have e4 : w64 ((b : Int) - (i2 : Int)) = ((b - i2 : Nat) : Int) := w64n (by omega) (by omega)
        have e5 : w64 ((j : Int) + 1) = ((j + 1 : Nat) : Int) := w64n (by omega) (by unfold big; omega)
        have hsw := h.swp i2 (i2 - 1)
        have hd : Ok D (Sort.fixDown ltR a i2 (Sort.swp d i2 (i2 - 1))) := by
          unfold Sort.fixDown
          split
          · exact (pis_dn (i2 - 1) _ hsw (by omega)).2
          · exact hsw
        have hu : Ok D (Sort.fixUp ltR b i2 (Sort.fixDown ltR a i2 (Sort.swp d i2 (i2 - 1)))) := by
          unfold Sort.fixUp
          split
          · exact (pis_up b 0 hbD (b - (i2 + 1)) (i2 + 1) _ (Nat.le_refl _) hd (by omega)).2
          · exact hd
        have hJ6 : ∀ x : Array Row, Ok D x → Z3_J6 D (b : Int) (j : Int) (i2 : Int) x.toList = some (.inl ((Sort.fixUp ltR b i2 x).toList, (i2 : Int), ((j + 1 : Nat) : Int))) := by
          intro x hx
          unfold Z3_J6 Sort.fixUp
          rw [e4]
          by_cases h6 : b - i2 ≥ 2
          · rw [if_pos (by simp; omega), if_pos h6, w64k (by omega), (pis_up b (i2 : Int) hbD (b - (i2 + 1)) (i2 + 1) x (Nat.le_refl _) hx (by omega)).1, Option.bind_some]
            unfold Z3_J7
            rw [e5]
          · rw [if_neg (by simp; omega), if_neg h6]
            unfold Z3_J7
            rw [e5]
        have hf : Z3_L1 D (a : Int) (b : Int) d.toList (i : Int) (j : Int) = some (.inl ((Sort.fixUp ltR b i2 (Sort.fixDown ltR a i2 (Sort.swp d i2 (i2 - 1)))).toList, (i2 : Int), ((j + 1 : Nat) : Int))) := by
          refine Eq.trans hL ?_
          unfold Z3_J5
          rw [if_neg (by simp; omega), e1, if_neg (by simp; omega), e2, e3, if_pos ⟨by omega, by omega⟩, if_pos ⟨by omega, by omega⟩]
          simp only [ix_arr, Int.toNat_natCast, swp_list, nm_bind]
          by_cases h6 : i2 - a ≥ 2
          · rw [if_pos (by simp; omega), (pis_dn (i2 - 1) _ hsw (by omega)).1, Option.bind_some]
            rw [show Sort.fixDown ltR a i2 (Sort.swp d i2 (i2 - 1)) = Sort.shiftDown ltR (i2 - 1) (Sort.swp d i2 (i2 - 1)) from if_pos h6] at hd ⊢
            exact hJ6 _ hd
          · rw [if_neg (by simp; omega)]
            rw [show Sort.fixDown ltR a i2 (Sort.swp d i2 (i2 - 1)) = Sort.swp d i2 (i2 - 1) from if_neg h6] at hd ⊢
            exact hJ6 _ hd
        rw [loopM_next (s' := ((Sort.fixUp ltR b i2 (Sort.fixDown ltR a i2 (Sort.swp d i2 (i2 - 1)))).toList, (i2 : Int), ((j + 1 : Nat) : Int))) hf]
        exact ih (j + 1) i2 _ (by omega) hu (by omega) (by omega)
theorem pis_eq {D : List Row} {d : Array Row} (h : Ok D d) (a b : Nat) (hb : b ≤ D.length) (ha : a < b) :
    Z3 d.toList (a : Int) (b : Int) = some ((Sort.partialInsertionSort ltR d a b).2, (Sort.partialInsertionSort ltR d a b).1.toList) ∧ Ok D (Sort.partialInsertionSort ltR d a b).1 := by
  have hb' := h.b
  have lp := pis_lp (D := d.toList) a b (by rw [Array.length_toList, h.s]; exact hb) 5 0 (a + 1) d rfl h.self (by omega) (by omega)
  unfold Z3
  rw [w64k (by omega)]
  exact ⟨lp.1, h.back lp.2⟩
theorem len8 : ∀ x : Fin 256, bt str0 ((x.val : Nat) : Int) = ((Sort.bitsLen x.val : Nat) : Int) := by decide +kernel
theorem bl256 {n : Nat} (h : 256 ≤ n) : Sort.bitsLen n = Sort.bitsLen (n / 256) + 8 := by
  apply Nat.le_antisymm
  · rw [Sort.bitsLen_le_iff, Nat.pow_add]
    have := (Sort.bitsLen_le_iff (n / 256) _).1 (Nat.le_refl _)
    have e : (2 : Nat) ^ 8 = 256 := by decide
    rw [e]
    omega
  · have h1 := (Sort.bitsLen_le_iff n _).1 (Nat.le_refl _)
    have h2 : 8 ≤ Sort.bitsLen n := by
      rcases Nat.lt_or_ge (Sort.bitsLen n) 8 with h3 | h3
      · have := (Sort.bitsLen_le_iff n 7).1 (by omega)
        omega
      · exact h3
    have h3 : Sort.bitsLen (n / 256) ≤ Sort.bitsLen n - 8 := by
      rw [Sort.bitsLen_le_iff]
      rw [show Sort.bitsLen n = (Sort.bitsLen n - 8) + 8 by omega, Nat.pow_add] at h1
      have e : (2 : Nat) ^ 8 = 256 := by decide
      rw [e] at h1
      omega
    omega
theorem bl_le {n : Nat} (h : n < 65536) : Sort.bitsLen n ≤ 16 := (Sort.bitsLen_le_iff n 16).2 h
theorem u64n {n : Nat} (h : n < 65536) : IntKind.wrap .u64 (n : Int) = (n : Int) := by rw [IntKind.wrap_u64]; omega
theorem len_eq {n : Nat} (h : n < 65536) : Z10 (IntKind.wrap .u64 (n : Int)) = some ((Sort.bitsLen n : Nat) : Int) := by
  have u8 : ∀ k : Nat, k < 256 → IntKind.wrap .u8 (k : Int) = (k : Int) := fun k hk => by
    simp [IntKind.wrap, IntKind.bits, IntKind.signed]; omega
  have hs : (str0.length : Int) = 256 := by decide +kernel
  have hbl := bl_le h
  rw [u64n h]
  unfold Z10 Zn
  rw [if_neg (by simp; omega)]
  unfold Zn_J1
  rw [if_neg (by simp; omega)]
  unfold Zn_J2
  by_cases h1 : 256 ≤ n
  · rw [if_pos (by simp; omega)]
    have e : (n : Int) / 2 ^ (8 : Int).toNat = ((n / 256 : Nat) : Int) := by
      rw [show (2 : Int) ^ (8 : Int).toNat = 256 by decide]; omega
    unfold Zn_J3
    rw [e, u8 _ (by omega), hs, if_pos ⟨by omega, by omega⟩, len8 ⟨n / 256, by omega⟩, bl256 h1]
    rw [bl256 h1] at hbl
    rw [w64n (x := ((Sort.bitsLen (n / 256) : Nat) : Int)) rfl (by unfold big; omega), show w64 (0 + 8) = 8 by decide, w64n (k := Sort.bitsLen (n / 256) + 8) (by omega) (by unfold big; omega)]
    rfl
  · rw [if_neg (by simp; omega)]
    unfold Zn_J3
    rw [u8 _ (by omega), hs, if_pos ⟨by omega, by omega⟩, len8 ⟨n, by omega⟩]
    rw [w64n (x := ((Sort.bitsLen n : Nat) : Int)) rfl (by unfold big; omega), w64n (k := Sort.bitsLen n) (by omega) (by unfold big; omega)]
    rfl
theorem xor_eq (r : UInt64) : Z1a (r.toNat : Int) = some (((Sort.xorNext r).toNat : Int), ((Sort.xorNext r).toNat : Int)) := by
  unfold Z1a
  have hr : r.toNat < 18446744073709551616 := r.toNat_lt
  have e13 : ∀ x : Nat, IntKind.wrap .u64 ((x : Int) * 2 ^ (13 : Int).toNat) = ((x * 8192 % 18446744073709551616 : Nat) : Int) := fun x => by
    rw [IntKind.wrap_u64, show (2 : Int) ^ (13 : Int).toNat = 8192 by decide]; omega
  have e17 : ∀ x : Nat, IntKind.wrap .u64 ((x : Int) * 2 ^ (17 : Int).toNat) = ((x * 131072 % 18446744073709551616 : Nat) : Int) := fun x => by
    rw [IntKind.wrap_u64, show (2 : Int) ^ (17 : Int).toNat = 131072 by decide]; omega
  have e7 : ∀ x : Nat, (x : Int) / 2 ^ (7 : Int).toNat = ((x / 128 : Nat) : Int) := fun x => by
    rw [show (2 : Int) ^ (7 : Int).toNat = 128 by decide]; omega
  have key : ∀ x y : Nat, x < 18446744073709551616 → y < 18446744073709551616 → x ^^^ y < 18446744073709551616 := fun x y hx hy => Nat.xor_lt_two_pow (n := 64) hx hy
  have ha := key r.toNat (r.toNat * 8192 % 18446744073709551616) hr (by omega)
  have hb := key _ ((r.toNat ^^^ (r.toNat * 8192 % 18446744073709551616)) / 128) ha (by omega)
  rw [e13, bits_xor_u64_nat _ _ hr (by omega), e7, bits_xor_u64_nat _ _ ha (by omega), e17, bits_xor_u64_nat _ _ hb (by omega), Sort.xorNext_toNat]
  rfl
theorem brk_step {D : List Row} {st : UInt64 × Array Row} (h : Ok D st.2) (a b : Nat) (hbD : b ≤ D.length) (hl : 8 ≤ b - a) (hl2 : b - a < 65536) (i : Nat) (h1 : a ≤ i) (h2 : i < b) (h3 : i ≤ a + (b - a) / 4 * 2 + 1) :
    Z00_L1 D (a : Int) (b : Int) (((1 <<< Sort.bitsLen (b - a) : Nat)) : Int) st.2.toList (st.1.toNat : Int) (i : Int) = some (.inl ((Sort.breakStep a (b - a) (1 <<< Sort.bitsLen (b - a)) st i).2.toList, ((Sort.breakStep a (b - a) (1 <<< Sort.bitsLen (b - a)) st i).1.toNat : Int), ((i + 1 : Nat) : Int))) ∧ Ok D (Sort.breakStep a (b - a) (1 <<< Sort.bitsLen (b - a)) st i).2 := by
  have hb := h.b
  unfold big at hb
  have hm : (Sort.xorNext st.1).toNat &&& (1 <<< Sort.bitsLen (b - a) - 1) ≤ 1 <<< Sort.bitsLen (b - a) - 1 := Nat.and_le_right
  have hp := Sort.two_pow_bitsLen_le (n := b - a) (by omega)
  have hpos : 0 < 2 ^ Sort.bitsLen (b - a) := Nat.two_pow_pos _
  have hx : (Sort.xorNext st.1).toNat < 18446744073709551616 := (Sort.xorNext st.1).toNat_lt
  refine ⟨?_, ?_⟩
  · unfold Z00_L1 Sort.breakStep
    rw [Nat.one_shiftLeft] at hm ⊢
    simp only []
    have e0 : w64 ((b : Int) - (a : Int)) = ((b - a : Nat) : Int) := w64n (by omega) (by unfold big; omega)
    have e1 : w64 (((b - a : Nat) : Int).tdiv 4) = (((b - a) / 4 : Nat) : Int) := by
      rw [show (4 : Int) = ((4 : Nat) : Int) from rfl, ← Int.ofNat_tdiv, w64_id (by omega) (by omega)]
    have e2 : w64 ((((b - a) / 4 : Nat) : Int) * 2) = (((b - a) / 4 * 2 : Nat) : Int) := w64n (by omega) (by unfold big; omega)
    have e3 : w64 ((a : Int) + (((b - a) / 4 * 2 : Nat) : Int)) = ((a + (b - a) / 4 * 2 : Nat) : Int) := w64n (by omega) (by unfold big; omega)
    have e4 : w64 (((a + (b - a) / 4 * 2 : Nat) : Int) + 1) = ((a + (b - a) / 4 * 2 + 1 : Nat) : Int) := w64n (by omega) (by unfold big; omega)
    have e5 : IntKind.wrap .u64 (((2 ^ Sort.bitsLen (b - a) : Nat) : Int) - 1) = ((2 ^ Sort.bitsLen (b - a) - 1 : Nat) : Int) := by rw [IntKind.wrap_u64]; omega
    rw [e0, e1, e2, e3, e4, if_pos (by simp; omega), xor_eq, Option.bind_some]
    simp only []
    rw [e5, bits_and_u64_nat _ _ hx (by omega)]
    generalize (Sort.xorNext st.1).toNat &&& (2 ^ Sort.bitsLen (b - a) - 1) = o at *
    rw [w64n (x := (o : Int)) (k := o) rfl (by unfold big; omega)]
    by_cases h4 : o ≥ b - a
    · rw [if_pos (by simp; omega), if_pos h4, w64n (x := (o : Int) - ((b - a : Nat) : Int)) (k := o - (b - a)) (by omega) (by unfold big; omega)]
      unfold Z00_J3
      rw [w64n (x := (a : Int) + ((o - (b - a) : Nat) : Int)) (k := a + (o - (b - a))) (by omega) (by unfold big; omega), if_pos ⟨by omega, by omega⟩, if_pos ⟨by omega, by omega⟩, w64k (by unfold big; omega)]
      simp only [ix_arr, Int.toNat_natCast, swp_list, nm_bind]
    · rw [if_neg (by simp; omega), if_neg h4]
      unfold Z00_J3
      rw [w64n (x := (a : Int) + (o : Int)) (k := a + o) (by omega) (by unfold big; omega), if_pos ⟨by omega, by omega⟩, if_pos ⟨by omega, by omega⟩, w64k (by unfold big; omega)]
      simp only [ix_arr, Int.toNat_natCast, swp_list, nm_bind]
  · unfold Sort.breakStep
    exact h.swp _ _
theorem brk_eq {D : List Row} {d : Array Row} (h : Ok D d) (a b : Nat) (hb : b ≤ D.length) (hl : 12 < b - a) (hl2 : b - a < 65536) :
    Z00 d.toList (a : Int) (b : Int) = some (Sort.breakPatterns d a b).toList ∧ Ok D (Sort.breakPatterns d a b) := by
  have hb' := h.b
  unfold big at hb'
  have hD : b ≤ d.toList.length := by rw [Array.length_toList, h.s]; exact hb
  have hbl := bl_le hl2
  have hpw : 2 ^ Sort.bitsLen (b - a) ≤ 2 ^ 16 := Nat.pow_le_pow_right (by decide) hbl
  have e0 : w64 ((b : Int) - (a : Int)) = ((b - a : Nat) : Int) := w64n (by omega) (by unfold big; omega)
  have e1 : w64 (((b - a : Nat) : Int).tdiv 4) = (((b - a) / 4 : Nat) : Int) := by
    rw [show (4 : Int) = ((4 : Nat) : Int) from rfl, ← Int.ofNat_tdiv, w64_id (by omega) (by omega)]
  have e2 : w64 ((((b - a) / 4 : Nat) : Int) * 2) = (((b - a) / 4 * 2 : Nat) : Int) := w64n (by omega) (by unfold big; omega)
  have e3 : w64 ((a : Int) + (((b - a) / 4 * 2 : Nat) : Int)) = ((a + (b - a) / 4 * 2 : Nat) : Int) := w64n (by omega) (by unfold big; omega)
  have e4 : w64 (((a + (b - a) / 4 * 2 : Nat) : Int) - 1) = ((a + (b - a) / 4 * 2 - 1 : Nat) : Int) := w64n (by omega) (by unfold big; omega)
  have e4' : w64 (((a + (b - a) / 4 * 2 : Nat) : Int) + 1) = ((a + (b - a) / 4 * 2 + 1 : Nat) : Int) := w64n (by omega) (by unfold big; omega)
  have e5 : Z19 ((b - a : Nat) : Int) = some ((1 <<< Sort.bitsLen (b - a) : Nat) : Int) := by
    unfold Z19
    rw [len_eq hl2, Option.bind_some, if_pos ⟨by omega, by omega⟩, Nat.one_shiftLeft, Int.toNat_natCast, IntKind.wrap_u64, Int.one_mul]
    have : ((2 : Int) ^ Sort.bitsLen (b - a)) = ((2 ^ Sort.bitsLen (b - a) : Nat) : Int) := by simp
    rw [this]
    generalize 2 ^ Sort.bitsLen (b - a) = P at *
    congr 1
    omega
  have e6 : IntKind.wrap .u64 ((b - a : Nat) : Int) = ((UInt64.ofNat (b - a)).toNat : Int) := by
    rw [u64n hl2, UInt64.toNat_ofNat']
    congr 1
    omega
  unfold Z00 Sort.breakPatterns
  simp only []
  rw [e0, if_pos (by simp; omega), e5, Option.bind_some, e6, e1, e2, e3, e4, if_pos (by omega)]
  have s1 := brk_step (D := d.toList) (st := (UInt64.ofNat (b - a), d)) h.self a b hD (by omega) hl2 (a + (b - a) / 4 * 2 - 1) (by omega) (by omega) (by omega)
  generalize Sort.breakStep a (b - a) (1 <<< Sort.bitsLen (b - a)) (UInt64.ofNat (b - a), d) (a + (b - a) / 4 * 2 - 1) = st1 at *
  have s2 := brk_step (D := d.toList) (st := st1) s1.2 a b hD (by omega) hl2 (a + (b - a) / 4 * 2 - 1 + 1) (by omega) (by omega) (by omega)
  generalize Sort.breakStep a (b - a) (1 <<< Sort.bitsLen (b - a)) st1 (a + (b - a) / 4 * 2 - 1 + 1) = st2 at *
  have s3 := brk_step (D := d.toList) (st := st2) s2.2 a b hD (by omega) hl2 (a + (b - a) / 4 * 2 - 1 + 2) (by omega) (by omega) (by omega)
  generalize Sort.breakStep a (b - a) (1 <<< Sort.bitsLen (b - a)) st2 (a + (b - a) / 4 * 2 - 1 + 2) = st3 at *
  rw [loopM_next (s' := (st1.2.toList, (st1.1.toNat : Int), ((a + (b - a) / 4 * 2 - 1 + 1 : Nat) : Int))) s1.1]
  rw [loopM_next (s' := (st2.2.toList, (st2.1.toNat : Int), ((a + (b - a) / 4 * 2 - 1 + 1 + 1 : Nat) : Int))) s2.1]
  rw [loopM_next (s' := (st3.2.toList, (st3.1.toNat : Int), ((a + (b - a) / 4 * 2 - 1 + 2 + 1 : Nat) : Int))) s3.1]
  rw [loopM_end (r := st3.2.toList) (by
    show Z00_L1 _ _ _ _ _ _ _ = _
    unfold Z00_L1
    rw [e0, e1, e2, e3, e4', if_neg (by simp; omega)])]
  exact ⟨rfl, h.back s3.2⟩
theorem Ok.perm {D : List Row} {d d' : Array Row} (h : Ok D d) {a b : Nat} (hb : b ≤ D.length) (hp : Sort.PermIn a b d d') : Ok D d' := by
  refine ⟨fun i => ?_, by rw [hp.1, h.s], h.b⟩
  by_cases hi : a ≤ i ∧ i < b
  · exact Sort.permIn_all d d' a b GR (by rw [h.s]; exact hb) hp (fun k _ _ => h.g k) i hi.1 hi.2
  · rw [hp.2.1 i (by omega)]; exact h.g i
theorem pdq_J {D : List Row} {d : Array Row} {a b : Nat} (rf : List Row → Int → Int → Int → Option (List Row)) (h : Ok D d) (hB : Sort.Below ltR a b d) (hb : b ≤ D.length) (hl : 12 < b - a) (hl2 : b - a < 65536) (lim : Nat) (h0 : lim ≠ 0) (hlim : lim < big) (wb wp : Bool) :
    Z6_L1 D rf d.toList (a : Int) (b : Int) (lim : Int) wb wp = (if (Sort.rd ltR d a b lim wb wp).pi.2 = true then some (.inr (Sort.rd ltR d a b lim wb wp).pi.1.toList) else
      Z6_J10 D rf (a : Int) (b : Int) wb wp ((Sort.rd ltR d a b lim wb wp).lim : Int) ((Sort.rd ltR d a b lim wb wp).pivot : Int) (Sort.rd ltR d a b lim wb wp).pi.1.toList) ∧ Ok D (Sort.rd ltR d a b lim wb wp).pi.1 := by
  have hb' := h.b
  have hf := Sort.rd_facts (lt := ltR) (d := d) (a := a) (b := b) (limit := lim) (wb := wb) (wp := wp) swoR Sort.partialInsertionSort_holds Sort.reverseRange_holds (by omega) (by rw [h.s]; exact hb) hB
  have h1 : Z6_L1 D rf d.toList (a : Int) (b : Int) (lim : Int) wb wp = Z6_J8 D rf (a : Int) (b : Int) wb wp (Sort.rd ltR d a b lim wb wp).d1.toList ((Sort.rd ltR d a b lim wb wp).lim : Int) ∧ Ok D (Sort.rd ltR d a b lim wb wp).d1 := by
    unfold Z6_L1
    rw [w64n (x := (b : Int) - (a : Int)) (k := b - a) (by omega) (by omega), if_neg (by simp; omega), if_neg (by simp; omega)]
    cases wb with
    | true => exact ⟨by rw [if_neg (by simp)]; rfl, h⟩
    | false =>
      have hk := brk_eq h a b hb hl hl2
      refine ⟨?_, hk.2⟩
      rw [if_pos (by simp), hk.1, Option.bind_some, w64n (x := (lim : Int) - 1) (k := lim - 1) (by omega) (by omega)]
      rfl
  obtain ⟨h1, ok1⟩ := h1
  have h2 : Z6_J8 D rf (a : Int) (b : Int) wb wp (Sort.rd ltR d a b lim wb wp).d1.toList ((Sort.rd ltR d a b lim wb wp).lim : Int) = Z6_J9 D rf (a : Int) (b : Int) wb wp ((Sort.rd ltR d a b lim wb wp).lim : Int) (Sort.rd ltR d a b lim wb wp).d2.toList ((Sort.rd ltR d a b lim wb wp).pivot : Int) (hn (Sort.rd ltR d a b lim wb wp).hint) ∧ Ok D (Sort.rd ltR d a b lim wb wp).d2 := by
    have hc := chp_eq ok1 a b hb hl
    have hc' := hf.2.2.1
    unfold Z6_J8
    rw [hc, Option.bind_some]
    by_cases hd : (Sort.rd ltR d a b lim wb wp).c.2 = .decreasing
    · obtain ⟨r1, r2, r3⟩ := Sort.rd_dec hd
      have hr := rev_eq ok1 a b hb (by omega)
      rw [r1, r2, r3]
      refine ⟨?_, hr.2⟩
      rw [Sort.rd_c] at hd hc'
      rw [if_pos (by simp [hd, hn]), hr.1, Option.bind_some, Sort.rd_c]
      simp only []
      rw [w64n (x := (b : Int) - 1) (k := b - 1) (by omega) (by omega), w64n (x := ((Sort.choosePivot ltR (Sort.rd ltR d a b lim wb wp).d1 a b).1 : Int) - (a : Int)) (k := (Sort.choosePivot ltR (Sort.rd ltR d a b lim wb wp).d1 a b).1 - a) (by omega) (by omega), w64n (k := b - 1 - ((Sort.choosePivot ltR (Sort.rd ltR d a b lim wb wp).d1 a b).1 - a)) (by omega) (by omega)]
      rfl
    · obtain ⟨r1, r2, r3⟩ := Sort.rd_not hd
      rw [r1, r2, r3]
      refine ⟨?_, ok1⟩
      rw [Sort.rd_c] at hd
      rw [if_neg (by cases hh : (Sort.choosePivot ltR (Sort.rd ltR d a b lim wb wp).d1 a b).2 <;> simp [hn]; exact absurd hh hd), Sort.rd_c]
  obtain ⟨h2, ok2⟩ := h2
  have h3 : Z6_J9 D rf (a : Int) (b : Int) wb wp ((Sort.rd ltR d a b lim wb wp).lim : Int) (Sort.rd ltR d a b lim wb wp).d2.toList ((Sort.rd ltR d a b lim wb wp).pivot : Int) (hn (Sort.rd ltR d a b lim wb wp).hint) = (if (Sort.rd ltR d a b lim wb wp).pi.2 = true then some (.inr (Sort.rd ltR d a b lim wb wp).pi.1.toList) else
      Z6_J10 D rf (a : Int) (b : Int) wb wp ((Sort.rd ltR d a b lim wb wp).lim : Int) ((Sort.rd ltR d a b lim wb wp).pivot : Int) (Sort.rd ltR d a b lim wb wp).pi.1.toList) ∧ Ok D (Sort.rd ltR d a b lim wb wp).pi.1 := by
    unfold Z6_J9
    have e : ((wb && wp) && (hn (Sort.rd ltR d a b lim wb wp).hint == (1 : Int))) = (wb && wp && decide ((Sort.rd ltR d a b lim wb wp).hint = .increasing)) := by
      congr 1
      cases (Sort.rd ltR d a b lim wb wp).hint <;> rfl
    rw [e]
    cases hc : (wb && wp && decide ((Sort.rd ltR d a b lim wb wp).hint = .increasing)) with
    | true =>
      have hp := pis_eq ok2 a b hb (by omega)
      rw [if_pos rfl, hp.1, Option.bind_some, Sort.rd_pi_yes hc]
      exact ⟨rfl, hp.2⟩
    | false =>
      rw [if_neg (by simp), Sort.rd_pi_no hc, if_neg (by simp)]
      exact ⟨rfl, ok2⟩
  exact ⟨h1.trans (h2.trans h3.1), h3.2⟩
theorem pdq_10 {D : List Row} {d : Array Row} (rf : List Row → Int → Int → Int → Option (List Row)) (h : Ok D d) (a b p : Nat) (lim : Int) (wb wp : Bool) (hb : b ≤ D.length) (ha : a < b) (hp : p < b)
    {me : Nat} {de : Array Row} (hpe : Sort.partitionEqual ltR d a b p = (me, de)) {mid : Nat} {ap : Bool} {d4 : Array Row} (hpt : Sort.partition ltR d a b p = (mid, ap, d4)) :
    Z6_J10 D rf (a : Int) (b : Int) wb wp lim (p : Int) d.toList = if (decide (a > 0) && !ltR d[a - 1]! d[p]!) = true then some (.inl (de.toList, (me : Int), (b : Int), lim, wb, wp))
      else if (decide (w64 ((mid : Int) - (a : Int)) < w64 ((b : Int) - (mid : Int)))) = true then
        (rf d4.toList (a : Int) (mid : Int) lim).bind fun r => some (.inl (r, w64 ((mid : Int) + 1), (b : Int), lim, decide (w64 ((mid : Int) - (a : Int)) ≥ w64 ((w64 ((b : Int) - (a : Int))).tdiv 8)), ap))
      else
        (rf d4.toList (w64 ((mid : Int) + 1)) (b : Int) lim).bind fun r => some (.inl (r, (a : Int), (mid : Int), lim, decide (w64 ((b : Int) - (mid : Int)) ≥ w64 ((w64 ((b : Int) - (a : Int))).tdiv 8)), ap)) := by
  have hb' := h.b
  have q1 := peq_eq h a b p hb ha hp
  have q2 := par_eq h a b p hb ha hp
  rw [hpe] at q1
  rw [hpt] at q2
  simp only [] at q1 q2
  unfold Z6_J10
  by_cases ha : a > 0
  · have e : decide ((a : Int) > 0) = true := by simp; omega
    rw [w64n (x := (a : Int) - 1) (k := a - 1) (by omega) (by omega), e, if_pos (fun _ => ⟨by omega, by omega⟩), if_pos (fun _ => ⟨by omega, by omega⟩)]
    simp only [gcall, cond_true, ix_arr, cmpA h.g, Option.bind_some, Bool.true_and, ha, decide_true, q1.1, q2.1]
  · have e : decide ((a : Int) > 0) = false := by simp; omega
    rw [e]
    simp only [gcall, cond_false, Bool.false_eq_true, false_imp_iff, if_true, Option.bind_some, Bool.false_and, if_false, ha, decide_false, q2.1]
theorem pdq_lp {D : List Row} (n : Nat) (rf : List Row → Int → Int → Int → Option (List Row))
    (hrf : ∀ (d : Array Row) (a b lim : Nat), Ok D d → Sort.Below ltR a b d → a ≤ b → b ≤ D.length → b - a < n → lim < big → rf d.toList (a : Int) (b : Int) (lim : Int) = some (Sort.pdq ltR d a b lim true true).toList) :
    ∀ (m : Nat) (d : Array Row) (a b lim : Nat) (wb wp : Bool), Ok D d → Sort.Below ltR a b d → a ≤ b → b ≤ D.length → b - a ≤ m → b - a ≤ n → b - a < 65536 → lim < big →
      loopM (fun s : (List Row) × Int × Int × Int × Bool × Bool => Z6_L1 D rf s.1 s.2.1 s.2.2.1 s.2.2.2.1 s.2.2.2.2.1 s.2.2.2.2.2) (d.toList, (a : Int), (b : Int), (lim : Int), wb, wp) = some (Sort.pdq ltR d a b lim wb wp).toList := by
  intro m
  induction m using Nat.strongRecOn with
  | _ m ih =>
    intro d a b lim wb wp h hB hab hb hm hn hs hlim
    have hb' := h.b
    by_cases h12 : b - a ≤ 12
    · rw [Sort.pdq_small h12]
      refine loopM_end ?_
      show Z6_L1 D rf d.toList (a : Int) (b : Int) (lim : Int) wb wp = _
      unfold Z6_L1
      rw [w64n (x := (b : Int) - (a : Int)) (k := b - a) (by omega) (by omega), if_pos (by simp; omega), (ins_eq h a b hb hab).1]
      rfl
    · by_cases h0 : lim = 0
      · rw [Sort.pdq_heap h12 h0]
        refine loopM_end ?_
        show Z6_L1 D rf d.toList (a : Int) (b : Int) (lim : Int) wb wp = _
        unfold Z6_L1
        rw [w64n (x := (b : Int) - (a : Int)) (k := b - a) (by omega) (by omega), if_neg (by simp; omega), if_pos (by simp; omega), (hea_eq h a b hb (by omega)).1]
        rfl
      · obtain ⟨hL, ok3⟩ := pdq_J rf h hB hb (by omega) hs lim h0 hlim wb wp
        have hf := Sort.rd_facts (lt := ltR) (d := d) (a := a) (b := b) (limit := lim) (wb := wb) (wp := wp) swoR Sort.partialInsertionSort_holds Sort.reverseRange_holds (by omega) (by rw [h.s]; exact hb) hB
        obtain ⟨-, -, -, -, -, ⟨pv1, pv2⟩, -, B3⟩ := hf
        have hll := Sort.rd_lim_le (lt := ltR) (d := d) (a := a) (b := b) (limit := lim) (wb := wb) (wp := wp)
        cases h1 : (Sort.rd ltR d a b lim wb wp).pi.2 with
        | true =>
          rw [if_pos h1] at hL
          rw [Sort.pdq_done h12 h0 h1]
          exact loopM_end hL
        | false =>
          rw [if_neg (by rw [h1]; simp)] at hL
          rcases hpe : Sort.partitionEqual ltR (Sort.rd ltR d a b lim wb wp).pi.1 a b (Sort.rd ltR d a b lim wb wp).pivot with ⟨me, de⟩
          rcases hpt : Sort.partition ltR (Sort.rd ltR d a b lim wb wp).pi.1 a b (Sort.rd ltR d a b lim wb wp).pivot with ⟨mid, ap, d4⟩
          rw [pdq_10 rf ok3 a b _ _ wb wp hb (by omega) pv2 hpe hpt] at hL
          have hb3 : b ≤ (Sort.rd ltR d a b lim wb wp).pi.1.size := by rw [ok3.s]; exact hb
          cases h2 : (decide (a > 0) && !ltR (Sort.rd ltR d a b lim wb wp).pi.1[a - 1]! (Sort.rd ltR d a b lim wb wp).pi.1[(Sort.rd ltR d a b lim wb wp).pivot]!) with
          | true =>
            have h2' := h2
            simp only [Bool.and_eq_true, decide_eq_true_eq, Bool.not_eq_true'] at h2'
            obtain ⟨g1, g2, g3, g4, -⟩ := Sort.round_eq swoR (Sort.partitionEqual_holds ltR) h2'.1 pv1 pv2 hb3 B3 h2'.2 hpe
            have okE := (peq_eq ok3 a b _ hb (by omega) pv2).2
            rw [if_pos h2] at hL
            rw [Sort.pdq_eq h12 h0 h1 h2 (by rw [hpe]; exact ⟨g1, g2⟩), hpe]
            rw [hpe] at okE
            rw [loopM_next (s' := (de.toList, (me : Int), (b : Int), ((Sort.rd ltR d a b lim wb wp).lim : Int), wb, wp)) hL]
            exact ih (b - me) (by omega) de me b _ wb wp okE g4 g2 hb (Nat.le_refl _) (by omega) (by omega) (by omega)
          | false =>
            obtain ⟨g1, g2, g3, g4, g5, g6, g7⟩ := Sort.round_part swoR (Sort.partition_holds ltR) pv1 pv2 hb3 B3 hpt
            have okP := (par_eq ok3 a b _ hb (by omega) pv2).2
            rw [hpt] at okP
            rw [if_neg (by rw [h2]; simp)] at hL
            have e0 : w64 ((b : Int) - (a : Int)) = ((b - a : Nat) : Int) := w64n (by omega) (by omega)
            have e1 : w64 (((b - a : Nat) : Int).tdiv 8) = (((b - a) / 8 : Nat) : Int) := by
              rw [show (8 : Int) = ((8 : Nat) : Int) from rfl, ← Int.ofNat_tdiv]; exact w64n rfl (by omega)
            have e2 : w64 ((mid : Int) - (a : Int)) = ((mid - a : Nat) : Int) := w64n (by omega) (by omega)
            have e3 : w64 ((b : Int) - (mid : Int)) = ((b - mid : Nat) : Int) := w64n (by omega) (by omega)
            have e4 : w64 ((mid : Int) + 1) = ((mid + 1 : Nat) : Int) := w64k (by omega)
            rw [e0, e1, e2, e3, e4] at hL
            by_cases h4 : mid - a < b - mid
            · have s := Sort.pdq_sorts ltR swoR d4 a mid (Sort.rd ltR d a b lim wb wp).lim true true g1 (by rw [g3]; omega) g4
              have g6' := g6 _ s.1 s.2
              rw [if_pos (by simp; omega), hrf d4 a mid _ okP g4 g1 (by omega) (by omega) (by omega), Option.bind_some] at hL
              rw [Sort.pdq_left h12 h0 h1 h2 (by rw [hpt]; exact ⟨g1, g2⟩) (by rw [hpt]; exact h4), hpt]
              rw [loopM_next (s' := (_, ((mid + 1 : Nat) : Int), (b : Int), ((Sort.rd ltR d a b lim wb wp).lim : Int), _, ap)) hL]
              rw [show decide (((mid - a : Nat) : Int) ≥ (((b - a) / 8 : Nat) : Int)) = decide (mid - a ≥ (b - a) / 8) by simp only [ge_iff_le, Int.ofNat_le]]
              exact ih (b - (mid + 1)) (by omega) _ (mid + 1) b _ _ ap (okP.perm (by omega) s.1) g6'.1 (by omega) hb (Nat.le_refl _) (by omega) (by omega) (by omega)
            · have s := Sort.pdq_sorts ltR swoR d4 (mid + 1) b (Sort.rd ltR d a b lim wb wp).lim true true (by omega) (by rw [g3]; exact hb3) g5
              have g7' := g7 _ s.1 s.2
              rw [if_neg (by simp; omega), hrf d4 (mid + 1) b _ okP g5 (by omega) hb (by omega) (by omega), Option.bind_some] at hL
              rw [Sort.pdq_right h12 h0 h1 h2 (by rw [hpt]; exact ⟨g1, g2⟩) (by rw [hpt]; exact h4), hpt]
              rw [loopM_next (s' := (_, (a : Int), (mid : Int), ((Sort.rd ltR d a b lim wb wp).lim : Int), _, ap)) hL]
              rw [show decide (((b - mid : Nat) : Int) ≥ (((b - a) / 8 : Nat) : Int)) = decide (b - mid ≥ (b - a) / 8) by simp only [ge_iff_le, Int.ofNat_le]]
              exact ih (mid - a) (by omega) _ a mid _ _ ap (okP.perm hb s.1) g7'.1 g1 (by omega) (Nat.le_refl _) (by omega) (by omega) (by omega)
theorem pdq_R {D : List Row} (hD : D.length < 65536) : ∀ (n : Nat) (d : Array Row) (a b lim : Nat), Ok D d → Sort.Below ltR a b d → a ≤ b → b ≤ D.length → b - a < n → lim < big → Z6_R n d.toList (a : Int) (b : Int) (lim : Int) = some (Sort.pdq ltR d a b lim true true).toList := by
  intro n
  induction n with
  | zero => intro d a b lim _ _ _ _ h _; exact absurd h (Nat.not_lt_zero _)
  | succ n ih =>
    intro d a b lim h hB hab hb hn hlim
    show Z6_S (Z6_R n) d.toList (a : Int) (b : Int) (lim : Int) = _
    unfold Z6_S
    have hl : d.toList.length = D.length := by rw [Array.length_toList, h.s]
    rw [pdq_lp (D := d.toList) n (Z6_R n) (fun d' a' b' l' h1 h2 h3 h4 h5 h6 => ih d' a' b' l' ⟨h1.g, by rw [h1.s, hl], h.b⟩ h2 h3 (by omega) h5 h6) (b - a) d a b lim true true h.self hB hab (by omega) (Nat.le_refl _) (by omega) (by omega) hlim]
    rfl
theorem srt_ok (l : List Row) (hl : l.length < 65536) (hG : ∀ x ∈ l, GR x) : ∃ s, Z1d l = some s ∧ s.Perm l ∧ s.Pairwise (fun x y => bk x.Key y.Key ≤ 0) := by
  have hg : Gd l.toArray := by
    intro i
    rw [getElem!_def]
    cases h : l.toArray[i]? with
    | none => show (0 : Nat) < big; decide
    | some x => exact hG x (by rw [← List.mem_toArray]; exact Array.mem_of_getElem? h)
  have ok : Ok l l.toArray := ⟨hg, by simp, by unfold big; omega⟩
  have hbl := bl_le hl
  obtain ⟨p1, p2⟩ := Sort.pdq_sorts ltR swoR l.toArray 0 l.length (Sort.bitsLen l.length) true true (Nat.zero_le _) (by simp) (Or.inl rfl)
  have hr := pdq_R hl recFuel l.toArray 0 l.length (Sort.bitsLen l.length) ok (Or.inl rfl) (Nat.zero_le _) (Nat.le_refl _) (by unfold recFuel; omega) (by unfold big; omega)
  refine ⟨(Sort.pdq ltR l.toArray 0 l.length (Sort.bitsLen l.length) true true).toList, ?_, ?_, ?_⟩
  · unfold Z1d
    rw [len_eq hl, Option.bind_some]
    unfold Z6
    rw [show l = l.toArray.toList from rfl, show (0 : Int) = ((0 : Nat) : Int) from rfl]
    rw [show l.toArray.toList.length = l.length from rfl, hr]
    rfl
  · have := p1.2.2
    have ex : ∀ (x : Array Row) (n : Nat), x.size = n → x.extract 0 n = x := fun x n h => by subst h; simp
    rw [ex l.toArray l.length (by simp), ex _ l.length (by rw [p1.1]; simp)] at this
    simpa using this
  · rw [List.pairwise_iff_getElem]
    intro i j hi hj hij
    have hs : (Sort.pdq ltR l.toArray 0 l.length (Sort.bitsLen l.length) true true).size = l.length := by rw [p1.1]; simp
    rw [Array.length_toList, hs] at hi hj
    have := p2 i j (Nat.zero_le _) hij hj
    rw [getElem!_pos _ j (by omega), getElem!_pos _ i (by omega)] at this
    simp only [decide_eq_false_iff_not, Int.not_lt] at this
    rw [Array.getElem_toList, Array.getElem_toList, bk_swap]
    omega
def all3 (lo hi : Int) (l : List Int) : Bool := l.all (fun x => decide (x ≥ lo) && decide (x ≤ hi))
theorem all3_mem {lo hi : Int} {l : List Int} (h : all3 lo hi l = true) {x : Int} (hx : x ∈ l) : lo ≤ x ∧ x ≤ hi := by
  have := List.all_eq_true.1 h x hx
  simpa using this
theorem toks_eq (l : List Int) (n : Int) (h : l.length ≤ 1048576) : Z08 l n = some (all3 0 (w64 (n - 1)) l) := by
  unfold Z08
  rw [loop_all l (fun s : Int => Z08_L1 l n s) (fun i => i) (fun x => decide (x ≥ 0) && decide (x ≤ w64 (n - 1))) (.inl false) (.inr ()) (fun k hk => by
    unfold Z08_L1 Zf
    rw [if_pos (lt_ hk), if_pos (inr_ hk), Option.bind_some, wi h hk]
    cases (decide (ix l (k : Int) ≥ 0) && decide (ix l (k : Int) ≤ w64 (n - 1))) <;> rfl) (by
    unfold Z08_L1
    rw [nlt_]; rfl)]
  unfold all3
  cases l.all (fun x => decide (x ≥ 0) && decide (x ≤ w64 (n - 1))) <;> rfl
theorem allW_eq (l : List Int) (lo hi : Int) (h : l.length ≤ 1048576) : Zw l lo hi = some (all3 lo hi l) := by
  unfold Zw
  rw [loop_all l (fun s : Int => Zw_L1 l lo hi s) (fun i => i) (fun x => decide (x ≥ lo) && decide (x ≤ hi)) (.inl false) (.inr ()) (fun k hk => by
    unfold Zw_L1 Zx
    rw [if_pos (lt_ hk), if_pos (inr_ hk), Option.bind_some, wi h hk]
    cases (decide (ix l (k : Int) ≥ lo) && decide (ix l (k : Int) ≤ hi)) <;> rfl) (by
    unfold Zw_L1
    rw [nlt_]; rfl)]
  unfold all3
  cases l.all (fun x => decide (x ≥ lo) && decide (x ≤ hi)) <;> rfl
theorem all_eq (l : List Int) (p : Int) (h : l.length ≤ 1048576) : Z0c l p = some (l.all (fun x => p == x)) := by
  unfold Z0c
  rw [loop_all l (fun s : Int => Z0c_L1 l p s) (fun i => i) (fun x => p == x) (.inl false) (.inr ()) (fun k hk => by
    unfold Z0c_L1
    rw [if_pos (lt_ hk), if_pos (inr_ hk), wi h hk]
    by_cases hp : p = ix l (k : Int)
    · simp [← hp]
    · simp [hp]) (by
    unfold Z0c_L1
    rw [nlt_]; rfl)]
  cases l.all (fun x => p == x) <;> rfl
theorem sum_loop {f : Int × Int → Option ((Int × Int) ⊕ Int)} (n : Nat) (g : Nat → Int) (h1 : ∀ (x : Int) (k : Nat), k < n → f (x, (k : Int)) = some (.inl (w64 (x + g k), w64 ((k : Int) + 1)))) (h2 : ∀ x, f (x, (n : Int)) = some (.inr x))
    (hg : ∀ k, k < n → 0 ≤ g k ∧ g k ≤ 1048576) (hn : n ≤ 1048576) : loopM f (0, 0) = some ((List.range n).map g).sum ∧ 0 ≤ ((List.range n).map g).sum ∧ ((List.range n).map g).sum ≤ 1048576 * n := by
  have key : ∀ (m k : Nat) (x : Int), k + m = n → 0 ≤ x → x ≤ 1048576 * k → loopM f (x, (k : Int)) = some (x + ((List.range' k m).map g).sum) ∧ 0 ≤ x + ((List.range' k m).map g).sum ∧ x + ((List.range' k m).map g).sum ≤ 1048576 * n := by
    intro m
    induction m with
    | zero =>
      intro k x hk h0 hx
      obtain rfl : k = n := by omega
      simp only [List.range'_zero, List.map_nil, List.sum_nil, Int.add_zero]
      exact ⟨loopM_end (h2 x), h0, hx⟩
    | succ m ih =>
      intro k x hk h0 hx
      have hk' : k < n := by omega
      obtain ⟨g0, g1⟩ := hg k hk'
      have hf := h1 x k hk'
      rw [w64_id (by omega) (by omega), wi hn hk'] at hf
      obtain ⟨i1, i2, i3⟩ := ih (k + 1) (x + g k) (by omega) (by omega) (by omega)
      rw [loopM_next hf, i1]
      simp only [List.range'_succ, List.map_cons, List.sum_cons]
      exact ⟨by rw [Int.add_assoc], by omega, by omega⟩
  have := key n 0 0 (by omega) (by omega) (by omega)
  rw [Int.zero_add, ← List.range_eq_range'] at this
  exact this
theorem map_ix (p : List Int) : (List.range p.length).map (fun k : Nat => ix p (k : Int)) = p := by
  apply List.ext_getElem
  · simp
  · intro i h1 h2
    simp only [List.getElem_map, List.getElem_range]
    exact ix_at h2
theorem sum_eq (p : List Int) (h : all3 0 1048576 p = true) (hl : p.length ≤ 1048576) : Zy p = some p.sum ∧ 0 ≤ p.sum ∧ p.sum ≤ 1048576 * p.length := by
  have := sum_loop (f := fun s : Int × Int => Zy_L1 p s.1 s.2) p.length (fun k : Nat => ix p (k : Int)) (fun x k hk => by
    show Zy_L1 p x (k : Int) = _
    unfold Zy_L1
    rw [if_pos (lt_ hk), if_pos (inr_ hk)]) (fun x => by
    show Zy_L1 p x (p.length : Int) = _
    unfold Zy_L1
    rw [nlt_]; rfl) (fun k hk => all3_mem h (ix_mem hk)) hl
  rw [map_ix] at this
  refine ⟨?_, this.2⟩
  unfold Zy
  rw [this.1]; rfl
theorem sum_nn (p : List Int) (h : ∀ x ∈ p, 0 ≤ x) : 0 ≤ p.sum := by
  induction p with
  | nil => simp
  | cons x t ih => rw [List.sum_cons]; have := h x (by simp); have := ih (fun y hy => h y (by simp [hy])); omega
theorem sum_pos (p : List Int) (h : ∀ x ∈ p, 0 ≤ x) : decide (p.sum > 0) = !(p.all (fun x => 0 == x)) := by
  induction p with
  | nil => rfl
  | cons x t ih =>
    have hx := h x (by simp)
    have ht := sum_nn t (fun y hy => h y (by simp [hy]))
    have := ih (fun y hy => h y (by simp [hy]))
    rw [List.sum_cons, List.all_cons]
    by_cases h1 : x = 0
    · subst h1; rw [Int.zero_add, this]; simp
    · have e : ((0 : Int) == x) = false := by simp; omega
      rw [e]; simp; omega
theorem wts_eq (p : List Int) (hl : p.length ≤ 1048576) : Zz p = some (all3 0 1000 p && !(p.all (fun x => 0 == x))) := by
  unfold Zz
  rw [loop_all p (fun s : Int => Zz_L1 p s) (fun i => i) (fun x => decide (x ≥ 0) && decide (x ≤ 1000)) (.inl false) (.inr ()) (fun k hk => by
    unfold Zz_L1 Zf
    rw [if_pos (lt_ hk), if_pos (inr_ hk), Option.bind_some, wi hl hk]
    cases (decide (ix p (k : Int) ≥ 0) && decide (ix p (k : Int) ≤ 1000)) <;> rfl) (by
    unfold Zz_L1
    rw [nlt_]; rfl)]
  cases h : all3 0 1000 p with
  | false =>
    unfold all3 at h
    rw [h]; rfl
  | true =>
    have h' : all3 0 1048576 p = true := by
      unfold all3
      rw [List.all_eq_true]
      intro x hx
      have := all3_mem h hx
      simp; omega
    unfold all3 at h
    rw [h]
    show Zz_J1 p = _
    unfold Zz_J1
    rw [(sum_eq p h' hl).1, Option.bind_some, sum_pos p (fun x hx => (all3_mem h' hx).1), Bool.true_and]
theorem guardS {α : Type} (k a w b : Bool) (X Y : Option α) : ((gcall (!k) (some a)).bind fun r47 => (gcall (!((k || (!r47)) || w)) (some b)).bind fun r49 => if (((k || (!r47)) || w) || (!r49)) = true then X else Y) = if (!k && a && !w && b) = true then Y else X := by
  cases k <;> cases a <;> cases w <;> cases b <;> rfl
theorem guardI {α : Type} (k a w b c : Bool) (X Y : Option α) : ((gcall (!k) (some a)).bind fun r45 => (gcall (!((k || (!r45)) || w)) (some b)).bind fun r47 => (gcall (!(((k || (!r45)) || w) || (!r47))) (some c)).bind fun r49 => if ((((k || (!r45)) || w) || (!r47)) || r49) = true then X else Y) = if (!k && a && !w && (b && !c)) = true then Y else X := by
  cases k <;> cases a <;> cases w <;> cases b <;> cases c <;> rfl
def rowB (n : Int) (r : Row) : Bool := !(decide ((r.Key.length : Int) > 4)) && all3 0 (w64 (n - 1)) r.Key && !((r.Weights.length : Int) != n) && (all3 0 1000 r.Weights && !(r.Weights.all (fun x => 0 == x)))
structure Bnd (rows : List Row) : Prop where
  n : rows.length ≤ 1048576
  k : ∀ r ∈ rows, r.Key.length ≤ 1048576
  w : ∀ r ∈ rows, r.Weights.length ≤ 1048576
open Classical in
theorem specL (m : Lm) (hB : Bnd m.Rows) : ∀ (t k : Nat) (s : Bool), k + t = m.Rows.length →
    (loopM (fun s : Bool × Int => Zd_L1 m s.1 s.2) (s, (k : Int))).bind (fun e => match e with | .inl e => some e | .inr e => Zd_J3 e) =
      some (decide (∀ j : Nat, k ≤ j → j < m.Rows.length → rowB m.Size (ix m.Rows (j : Int)) = true ∧ ∀ i : Nat, i < j → (ix m.Rows (i : Int)).Key ≠ (ix m.Rows (j : Int)).Key) && (s || (m.Rows.drop k).any (fun r => r.Key.length == 0))) := by
  intro t
  induction t with
  | zero =>
    intro k s hk
    obtain rfl : k = m.Rows.length := by omega
    rw [loopM_end (r := .inr s) (by
      show Zd_L1 m s _ = _
      unfold Zd_L1
      rw [nlt_]; rfl)]
    rw [decide_eq_true (by intro j h1 h2; omega), List.drop_length]
    show some s = _
    simp
  | succ t ih =>
    intro k s hk
    have hlt : k < m.Rows.length := by omega
    have hkey := hB.k _ (ix_mem hlt)
    have hwt := hB.w _ (ix_mem hlt)
    have hin : loopM (fun s : Int => Zd_L2 m (k : Int) s) (0 : Int) = some (if (List.range k).all (fun i => !decide ((ix m.Rows (i : Int)).Key = (ix m.Rows (k : Int)).Key)) then .inr () else .inl false) := by
      refine loop_allI k (fun s : Int => Zd_L2 m (k : Int) s) (fun i => i) (fun i => !decide ((ix m.Rows (i : Int)).Key = (ix m.Rows (k : Int)).Key)) (.inl false) (.inr ()) (fun i hi => ?_) ?_
      · unfold Zd_L2
        have hb := hB.n
        rw [if_pos (by simpa using hi), if_pos ⟨by omega, by omega⟩, same_eq _ _ (by have := hB.k _ (ix_mem (show i < m.Rows.length by omega)); unfold big; omega), Option.bind_some, wi hb (by omega)]
        cases decide ((ix m.Rows (i : Int)).Key = (ix m.Rows (k : Int)).Key) <;> rfl
      · unfold Zd_L2
        rw [if_neg (by simp)]
    have hf : Zd_L1 m s (k : Int) = some (if rowB m.Size (ix m.Rows (k : Int)) = true then (if (List.range k).all (fun i => !decide ((ix m.Rows (i : Int)).Key = (ix m.Rows (k : Int)).Key)) = true then .inl ((s || ((ix m.Rows (k : Int)).Key.length == 0)), ((k + 1 : Nat) : Int)) else .inr (.inl false)) else .inr (.inl false)) := by
      unfold Zd_L1
      rw [if_pos (lt_ hlt), if_pos (inr_ hlt), toks_eq _ _ hkey, wts_eq _ hwt, hin, guardS]
      show (if rowB m.Size (ix m.Rows (k : Int)) = true then _ else _) = _
      by_cases h1 : rowB m.Size (ix m.Rows (k : Int)) = true
      · rw [if_pos h1, if_pos h1, Option.bind_some]
        by_cases h2 : (List.range k).all (fun i => !decide ((ix m.Rows (i : Int)).Key = (ix m.Rows (k : Int)).Key)) = true
        · rw [if_pos h2, if_pos h2]
          show Zd_J2 m s (k : Int) = _
          unfold Zd_J2
          rw [wi hB.n hlt]
          congr 4
          rw [Bool.eq_iff_iff]; simp
        · rw [if_neg h2, if_neg h2]
      · rw [if_neg h1, if_neg h1]
    have bad : (¬ (rowB m.Size (ix m.Rows (k : Int)) = true ∧ ∀ i : Nat, i < k → (ix m.Rows (i : Int)).Key ≠ (ix m.Rows (k : Int)).Key)) → decide (∀ j : Nat, k ≤ j → j < m.Rows.length → rowB m.Size (ix m.Rows (j : Int)) = true ∧ ∀ i : Nat, i < j → (ix m.Rows (i : Int)).Key ≠ (ix m.Rows (j : Int)).Key) = false :=
      fun h => decide_eq_false fun h2 => h (h2 k (Nat.le_refl _) hlt)
    by_cases h1 : rowB m.Size (ix m.Rows (k : Int)) = true
    · rw [if_pos h1] at hf
      by_cases h2 : (List.range k).all (fun i => !decide ((ix m.Rows (i : Int)).Key = (ix m.Rows (k : Int)).Key)) = true
      · rw [if_pos h2] at hf
        rw [loopM_next (s' := ((s || ((ix m.Rows (k : Int)).Key.length == 0)), ((k + 1 : Nat) : Int))) hf, ih (k + 1) _ (by omega)]
        have h3 : ∀ i : Nat, i < k → (ix m.Rows (i : Int)).Key ≠ (ix m.Rows (k : Int)).Key := fun i hi => by
          have := List.all_eq_true.1 h2 i (by simpa using hi)
          simpa using this
        rw [List.drop_eq_getElem_cons hlt, List.any_cons, ← ix_at hlt, Bool.or_assoc]
        congr 2
        rw [decide_eq_decide]
        constructor
        · intro h j h5 h6
          rcases Nat.eq_or_lt_of_le h5 with rfl | h7
          · exact ⟨h1, h3⟩
          · exact h j h7 h6
        · intro h j h5 h6
          exact h j (by omega) h6
      · rw [if_neg h2] at hf
        rw [loopM_end hf, bad (fun h => h2 (List.all_eq_true.2 fun i hi => by simpa using h.2 i (by simpa using hi)))]
        rfl
    · rw [if_neg h1] at hf
      rw [loopM_end hf, bad (fun h => h1 h.1)]
      rfl
structure LmP (m : Lm) : Prop where
  s : 1 ≤ m.Size ∧ m.Size ≤ 64
  n : m.Rows.length ≤ 500
  r : ∀ x ∈ m.Rows, rowB m.Size x = true
  d : m.Rows.Pairwise (fun x y => x.Key ≠ y.Key)
  e : ∃ x ∈ m.Rows, x.Key = []
open Classical in
theorem specOk (m : Lm) (hB : Bnd m.Rows) : Zd m = some (decide (LmP m)) := by
  unfold Zd Zf
  rw [Option.bind_some]
  by_cases h0 : ((!(decide (m.Size ≥ 1) && decide (m.Size ≤ 64))) || decide ((m.Rows.length : Int) > 500)) = true
  · rw [if_pos h0, decide_eq_false]
    rintro ⟨h1, h2, -, -, -⟩
    simp at h0; omega
  · rw [if_neg h0]
    have := specL m hB m.Rows.length 0 false (by omega)
    rw [show ((0 : Nat) : Int) = 0 from rfl] at this
    refine Eq.trans this ?_
    have hs : (1 ≤ m.Size ∧ m.Size ≤ 64) ∧ m.Rows.length ≤ 500 := by simp at h0; omega
    congr 1
    rw [Bool.eq_iff_iff]
    simp only [Bool.and_eq_true, decide_eq_true_eq, Bool.false_or, List.drop_zero, List.any_eq_true, beq_iff_eq, List.length_eq_zero_iff]
    constructor
    · rintro ⟨h1, h2⟩
      refine ⟨hs.1, hs.2, fun x hx => ?_, ?_, h2⟩
      · obtain ⟨j, hj, rfl⟩ := List.getElem_of_mem hx
        have := (h1 j (Nat.zero_le _) hj).1
        rwa [ix_at hj] at this
      · rw [List.pairwise_iff_getElem]
        intro i j hi hj hij
        have := (h1 j (Nat.zero_le _) hj).2 i hij
        rwa [ix_at hi, ix_at hj] at this
    · rintro ⟨-, -, h1, h2, h3⟩
      refine ⟨fun j _ hj => ⟨h1 _ (ix_mem hj), fun i hi => ?_⟩, h3⟩
      rw [List.pairwise_iff_getElem] at h2
      have := h2 i j (by omega) hj hi
      rwa [ix_at (show i < m.Rows.length by omega), ix_at hj]
structure Srtd (rows s : List Row) : Prop where
  p : s.Perm rows
  o : s.Pairwise (fun x y => bk x.Key y.Key ≤ 0)
theorem rows_ok (m : Lm) (hB : Bnd m.Rows) (hn : m.Rows.length < 65536) : ∃ s, Z0w m = some s ∧ Srtd m.Rows s := by
  obtain ⟨s, h1, h2, h3⟩ := srt_ok m.Rows hn (fun x hx => by unfold GR big; have := hB.k x hx; omega)
  refine ⟨s, ?_, h2, h3⟩
  unfold Z0w Z1e
  rw [if_pos (by omega), Option.bind_some, h1]; rfl
open Classical in
theorem implL (m : Lm) (s : List Row) (hB : Bnd s) : ∀ (t k : Nat), k + t = s.length →
    (loopM (fun x : Int => Zt_L1 m s x) (k : Int)).bind (fun e => match e with | .inl e => some e | .inr e => Zt_J1 s) =
      some (decide (∀ j : Nat, k ≤ j → j < s.length → rowB m.Size (ix s (j : Int)) = true ∧ (0 < j → (ix s ((j - 1 : Nat) : Int)).Key ≠ (ix s (j : Int)).Key)) && (decide (0 < s.length) && ((ix s 0).Key.length == 0))) := by
  intro t
  induction t with
  | zero =>
    intro k hk
    obtain rfl : k = s.length := by omega
    rw [loopM_end (r := .inr ()) (by
      show Zt_L1 m s _ = _
      unfold Zt_L1
      rw [nlt_]; rfl)]
    rw [decide_eq_true (by intro j h1 h2; omega)]
    show Zt_J1 s = _
    unfold Zt_J1
    rw [if_pos (fun h => ⟨by omega, by simpa using h⟩), Bool.true_and]
    congr 1
    rw [Bool.eq_iff_iff]; simp
  | succ t ih =>
    intro k hk
    have hlt : k < s.length := by omega
    have hkey := hB.k _ (ix_mem hlt)
    have hwt := hB.w _ (ix_mem hlt)
    have hb := hB.n
    have hf : Zt_L1 m s (k : Int) = some (if rowB m.Size (ix s (k : Int)) = true then (if (decide (0 < k) && (bk (ix s ((k - 1 : Nat) : Int)).Key (ix s (k : Int)).Key == 0)) = true then .inr (.inl false) else .inl ((k + 1 : Nat) : Int)) else .inr (.inl false)) := by
      unfold Zt_L1
      rw [if_pos (lt_ hlt), if_pos (inr_ hlt), allW_eq _ _ _ hkey, allW_eq _ _ _ hwt, all_eq _ _ hwt, guardI]
      show (if rowB m.Size (ix s (k : Int)) = true then _ else _) = _
      by_cases h1 : rowB m.Size (ix s (k : Int)) = true
      · rw [if_pos h1, if_pos h1]
        by_cases h2 : 0 < k
        · have e : decide ((k : Int) > 0) = true := by simpa using h2
          have hk1 := hB.k _ (ix_mem (show k - 1 < s.length by omega))
          rw [w64n (x := (k : Int) - 1) (k := k - 1) (by omega) (by unfold big; omega), e, if_pos (fun _ => ⟨by omega, by omega⟩), wi hb hlt]
          simp only [gcall, cond_true, h2, decide_true, Bool.true_and]
          rw [byKey_eq _ _ (by unfold big; omega), Option.bind_some]
          split <;> rfl
        · have e : decide ((k : Int) > 0) = false := by simp; omega
          rw [e, wi hb hlt]
          simp [gcall, h2]
      · rw [if_neg h1, if_neg h1]
    have bad : (¬ (rowB m.Size (ix s (k : Int)) = true ∧ (0 < k → (ix s ((k - 1 : Nat) : Int)).Key ≠ (ix s (k : Int)).Key))) → decide (∀ j : Nat, k ≤ j → j < s.length → rowB m.Size (ix s (j : Int)) = true ∧ (0 < j → (ix s ((j - 1 : Nat) : Int)).Key ≠ (ix s (j : Int)).Key)) = false :=
      fun h => decide_eq_false fun h2 => h (h2 k (Nat.le_refl _) hlt)
    by_cases h1 : rowB m.Size (ix s (k : Int)) = true
    · rw [if_pos h1] at hf
      by_cases h2 : (decide (0 < k) && (bk (ix s ((k - 1 : Nat) : Int)).Key (ix s (k : Int)).Key == 0)) = true
      · rw [if_pos h2] at hf
        simp only [Bool.and_eq_true, decide_eq_true_eq, beq_iff_eq] at h2
        rw [loopM_end hf, bad (fun h => h.2 h2.1 (bk_eq _ _ h2.2))]
        rfl
      · rw [if_neg h2] at hf
        rw [loopM_next hf, ih (k + 1) (by omega)]
        have h3 : 0 < k → (ix s ((k - 1 : Nat) : Int)).Key ≠ (ix s (k : Int)).Key := fun h4 h5 => h2 (by
          rw [h5, bk_self]; simpa using h4)
        congr 2
        rw [decide_eq_decide]
        constructor
        · intro h j h5 h6
          rcases Nat.eq_or_lt_of_le h5 with rfl | h7
          · exact ⟨h1, h3⟩
          · exact h j h7 h6
        · intro h j h5 h6
          exact h j (by omega) h6
    · rw [if_neg h1] at hf
      rw [loopM_end hf, bad (fun h => h1 h.1)]
      rfl
theorem Srtd.lt {rows s : List Row} (h : Srtd rows s) (hd : rows.Pairwise (fun x y => x.Key ≠ y.Key)) : s.Pairwise (fun x y => bk x.Key y.Key < 0) := by
  have h1 : s.Pairwise (fun x y => x.Key ≠ y.Key) := (h.p.pairwise_iff (fun {x y} hxy => Ne.symm hxy)).2 hd
  refine (h.o.and h1).imp (fun {x y} hxy => ?_)
  rcases Int.lt_or_eq_of_le hxy.1 with h2 | h2
  · exact h2
  · exact absurd (bk_eq _ _ h2) hxy.2
theorem Bnd.perm {rows s : List Row} (h : Bnd rows) (p : s.Perm rows) : Bnd s := ⟨by rw [p.length_eq]; exact h.n, fun r hr => h.k r (p.mem_iff.1 hr), fun r hr => h.w r (p.mem_iff.1 hr)⟩
open Classical in
theorem implOk (m : Lm) (hB : Bnd m.Rows) : Zt m = some (decide (LmP m)) := by
  unfold Zt Zx
  rw [Option.bind_some]
  by_cases h0 : ((!(decide (m.Size ≥ 1) && decide (m.Size ≤ 64))) || decide ((m.Rows.length : Int) > 500)) = true
  · rw [if_pos h0, decide_eq_false]
    rintro ⟨h1, h2, -, -, -⟩
    simp at h0; omega
  · rw [if_neg h0]
    have hs : (1 ≤ m.Size ∧ m.Size ≤ 64) ∧ m.Rows.length ≤ 500 := by simp at h0; omega
    obtain ⟨s, e1, e2⟩ := rows_ok m hB (by omega)
    rw [e1, Option.bind_some]
    have := implL m s (hB.perm e2.p) s.length 0 (by omega)
    rw [show ((0 : Nat) : Int) = 0 from rfl] at this
    refine Eq.trans this ?_
    congr 1
    rw [Bool.eq_iff_iff]
    simp only [Bool.and_eq_true, decide_eq_true_eq, beq_iff_eq, List.length_eq_zero_iff]
    constructor
    · rintro ⟨h1, h2, h3⟩
      have h4 : s.Pairwise (fun x y => bk x.Key y.Key < 0) := by
        rw [List.pairwise_iff_getElem]
        have step : ∀ j : Nat, ∀ hj : j < s.length, 0 < j → bk (ix s ((j - 1 : Nat) : Int)).Key (ix s (j : Int)).Key < 0 := fun j hj hj0 => by
          have h5 := List.pairwise_iff_getElem.1 e2.o (j - 1) j (by omega) hj (by omega)
          rw [ix_at hj, ix_at (show j - 1 < s.length by omega)]
          rcases Int.lt_or_eq_of_le h5 with h6 | h6
          · exact h6
          · have := (h1 j (Nat.zero_le _) hj).2 hj0
            rw [ix_at hj, ix_at (show j - 1 < s.length by omega)] at this
            exact absurd (bk_eq _ _ h6) this
        intro i j hi hj hij
        induction j with
        | zero => omega
        | succ j ih =>
          have h5 := step (j + 1) hj (by omega)
          rw [ix_at hj, Nat.add_sub_cancel, ix_at (show j < s.length by omega)] at h5
          rcases Nat.eq_or_lt_of_le (Nat.le_of_lt_succ hij) with h6 | h6
          · subst h6; exact h5
          · exact bk_trans _ _ _ (ih (by omega) h6) h5
      refine ⟨hs.1, hs.2, fun x hx => ?_, ?_, ?_⟩
      · obtain ⟨j, hj, rfl⟩ := List.getElem_of_mem (e2.p.mem_iff.2 hx)
        have := (h1 j (Nat.zero_le _) hj).1
        rwa [ix_at hj] at this
      · refine (e2.p.pairwise_iff (fun {x y} hxy => Ne.symm hxy)).1 (h4.imp fun {x y} hxy he => ?_)
        rw [he, bk_self] at hxy; omega
      · exact ⟨ix s 0, e2.p.mem_iff.1 (ix_mem (k := 0) h2), h3⟩
    · rintro ⟨-, -, h1, h2, x, h3, h4⟩
      have h5 := List.pairwise_iff_getElem.1 (e2.lt h2)
      have hx := e2.p.mem_iff.2 h3
      refine ⟨fun j _ hj => ⟨h1 _ (e2.p.mem_iff.1 (ix_mem hj)), fun hj0 => ?_⟩, List.length_pos_of_mem hx, ?_⟩
      · have := h5 (j - 1) j (by omega) hj (by omega)
        rw [ix_at hj, ix_at (show j - 1 < s.length by omega)]
        intro he
        rw [he, bk_self] at this; omega
      · obtain ⟨j, hj, rfl⟩ := List.getElem_of_mem hx
        rw [show (0 : Int) = ((0 : Nat) : Int) from rfl, ix_at (show 0 < s.length by omega)]
        rcases Nat.eq_zero_or_pos j with rfl | hj0
        · exact h4
        · have := h5 0 j (by omega) hj hj0
          rw [h4] at this
          unfold bk at this
          rw [if_neg (by simp)] at this
          by_cases h6 : ([] : List Int).length < s[0].Key.length
          · rw [if_pos h6] at this; omega
          · exact List.eq_nil_of_length_eq_zero (by simp at h6 ⊢; exact h6)
theorem ends_eq (l key : List Int) (hl : l.length ≤ 1048576) (hk : key.length ≤ 1048576) : Z0y l key = some (decide (key <:+ l)) := by
  unfold Z0y
  rw [w64_id (by omega) (by omega)]
  by_cases h : key.length ≤ l.length
  · have e : decide ((l.length : Int) - (key.length : Int) ≥ 0) = true := by simp; omega
    have e2 : (l.length : Int) - (key.length : Int) = ((l.length - key.length : Nat) : Int) := by omega
    rw [e, if_pos (fun _ => ⟨by omega, by omega, by omega⟩), e2]
    have e3 : sub l ((l.length - key.length : Nat) : Int) (l.length : Int) = l.drop (l.length - key.length) := by simp [sub]
    rw [e3]
    simp only [gcall, cond_true]
    rw [same_eq _ _ (by simp; unfold big; omega), Option.bind_some, Bool.true_and]
    congr 1
    rw [decide_eq_decide, List.suffix_iff_eq_drop]
    exact eq_comm
  · have e : decide ((l.length : Int) - (key.length : Int) ≥ 0) = false := by simp; omega
    rw [e]
    simp only [gcall, Bool.false_eq_true, false_imp_iff, if_true, cond_false, Option.bind_some, Bool.false_and]
    congr 1
    symm
    rw [decide_eq_false_iff_not]
    intro h2
    exact h h2.length_le
structure Best (rows : List Row) (h : List Int) (r : Row) : Prop where
  m : r ∈ rows
  e : r.Key <:+ h
  g : ∀ x ∈ rows, x.Key <:+ h → x.Key.length ≤ r.Key.length
theorem key_inj {rows : List Row} (hd : rows.Pairwise (fun x y => x.Key ≠ y.Key)) {x y : Row} (hx : x ∈ rows) (hy : y ∈ rows) (h : x.Key = y.Key) : x = y := by
  induction rows with
  | nil => cases hx
  | cons z t ih =>
    rw [List.pairwise_cons] at hd
    rcases List.mem_cons.1 hx with hx' | hx'
    · subst hx'
      rcases List.mem_cons.1 hy with hy' | hy'
      · exact hy'.symm
      · exact absurd h (hd.1 y hy')
    · rcases List.mem_cons.1 hy with hy' | hy'
      · subst hy'
        exact absurd h.symm (hd.1 x hx')
      · exact ih hd.2 hx' hy'
theorem Best.uniq {rows : List Row} {h : List Int} {r r' : Row} (hd : rows.Pairwise (fun x y => x.Key ≠ y.Key)) (a : Best rows h r) (b : Best rows h r') : r = r' := by
  refine key_inj hd a.m b.m ?_
  have e : r.Key.length = r'.Key.length := Nat.le_antisymm (b.g r a.m a.e) (a.g r' b.m b.e)
  rw [List.suffix_iff_eq_drop.1 a.e, List.suffix_iff_eq_drop.1 b.e, e]
theorem of_eq (m : Lm) (hB : Bnd m.Rows) (hP : LmP m) (h : List Int) (hl : h.length ≤ 1048576) : ∃ r, Best m.Rows h r ∧ Zj m h = some r.Weights := by
  -- what is known after k rows
  have key : ∀ (t k : Nat) (b : Int), k + t = m.Rows.length → ((b = -1 ∧ ∀ j : Nat, j < k → ¬ (ix m.Rows (j : Int)).Key <:+ h) ∨ (∃ i : Nat, b = (i : Int) ∧ i < k ∧ (ix m.Rows (i : Int)).Key <:+ h ∧ ∀ j : Nat, j < k → (ix m.Rows (j : Int)).Key <:+ h → (ix m.Rows (j : Int)).Key.length ≤ (ix m.Rows (i : Int)).Key.length)) →
      ∃ b', loopM (fun s : Int × Int => Zj_L1 m h s.1 s.2) (b, (k : Int)) = some b' ∧ ((b' = -1 ∧ ∀ j : Nat, j < m.Rows.length → ¬ (ix m.Rows (j : Int)).Key <:+ h) ∨ (∃ i : Nat, b' = (i : Int) ∧ i < m.Rows.length ∧ (ix m.Rows (i : Int)).Key <:+ h ∧ ∀ j : Nat, j < m.Rows.length → (ix m.Rows (j : Int)).Key <:+ h → (ix m.Rows (j : Int)).Key.length ≤ (ix m.Rows (i : Int)).Key.length)) := by
    intro t
    induction t with
    | zero =>
      intro k b hk hb
      obtain rfl : k = m.Rows.length := by omega
      refine ⟨b, loopM_end ?_, hb⟩
      show Zj_L1 m h b _ = _
      unfold Zj_L1
      rw [nlt_]; rfl
    | succ t ih =>
      intro k b hk hb
      have hlt : k < m.Rows.length := by omega
      have hbn := hB.n
      have hf : Zj_L1 m h b (k : Int) = some (.inl ((if decide ((ix m.Rows (k : Int)).Key <:+ h) && (decide (b < 0) || decide (((ix m.Rows (k : Int)).Key.length : Int) > ((ix m.Rows b).Key.length : Int))) then (k : Int) else b), ((k + 1 : Nat) : Int))) := by
        unfold Zj_L1
        rw [if_pos (lt_ hlt), if_pos (inr_ hlt), ends_eq _ _ hl (hB.k _ (ix_mem hlt)), Option.bind_some]
        rw [if_pos (fun _ hb0 => by
          have hb0 := of_decide_eq_false hb0
          rcases hb with ⟨rfl, _⟩ | ⟨i, rfl, hi, _⟩
          · omega
          · omega)]
        unfold Zj_J2
        rw [wi hbn hlt]
        split <;> rfl
      rw [loopM_next (s' := (_, ((k + 1 : Nat) : Int))) hf]
      apply ih (k + 1) _ (by omega)
      by_cases h1 : (ix m.Rows (k : Int)).Key <:+ h
      · right
        rcases hb with ⟨rfl, h2⟩ | ⟨i, rfl, h2, h3, h4⟩
        · rw [if_pos (by simp [h1])]
          refine ⟨k, rfl, by omega, h1, fun j hj hj2 => ?_⟩
          rcases Nat.lt_or_ge j k with h5 | h5
          · exact absurd hj2 (h2 j h5)
          · obtain rfl : j = k := by omega
            exact Nat.le_refl _
        · by_cases h5 : (ix m.Rows (k : Int)).Key.length > (ix m.Rows (i : Int)).Key.length
          · rw [if_pos (by simp [h1]; right; exact h5)]
            refine ⟨k, rfl, by omega, h1, fun j hj hj2 => ?_⟩
            rcases Nat.lt_or_ge j k with h6 | h6
            · have := h4 j h6 hj2; omega
            · obtain rfl : j = k := by omega
              exact Nat.le_refl _
          · rw [if_neg (by simp [h1]; omega)]
            refine ⟨i, rfl, by omega, h3, fun j hj hj2 => ?_⟩
            rcases Nat.lt_or_ge j k with h6 | h6
            · exact h4 j h6 hj2
            · obtain rfl : j = k := by omega
              omega
      · rw [if_neg (by simp [h1])]
        rcases hb with ⟨rfl, h2⟩ | ⟨i, rfl, h2, h3, h4⟩
        · refine .inl ⟨rfl, fun j hj => ?_⟩
          rcases Nat.lt_or_ge j k with h6 | h6
          · exact h2 j h6
          · obtain rfl : j = k := by omega
            exact h1
        · refine .inr ⟨i, rfl, by omega, h3, fun j hj hj2 => ?_⟩
          rcases Nat.lt_or_ge j k with h6 | h6
          · exact h4 j h6 hj2
          · obtain rfl : j = k := by omega
            exact absurd hj2 h1
  obtain ⟨b', e1, hb⟩ := key m.Rows.length 0 (-1) (by omega) (.inl ⟨rfl, fun j hj => absurd hj (Nat.not_lt_zero _)⟩)
  obtain ⟨x, hx, hx0⟩ := hP.e
  obtain ⟨j0, hj0, rfl⟩ := List.getElem_of_mem hx
  rcases hb with ⟨-, h2⟩ | ⟨i, rfl, h2, h3, h4⟩
  · refine absurd ?_ (h2 j0 hj0)
    rw [ix_at hj0, hx0]
    exact List.nil_suffix
  · refine ⟨ix m.Rows (i : Int), ⟨ix_mem h2, h3, fun x hx hx2 => ?_⟩, ?_⟩
    · obtain ⟨j, hj, rfl⟩ := List.getElem_of_mem hx
      have := h4 j hj (by rw [ix_at hj]; exact hx2)
      rwa [ix_at hj] at this
    · unfold Zj
      rw [show (0 : Int) = ((0 : Nat) : Int) from rfl, e1, Option.bind_some]
      unfold Zj_J3
      rw [if_pos (inr_ h2)]
theorem fnd_ok (s : List Row) (hB : Bnd s) (ho : s.Pairwise (fun x y => bk x.Key y.Key < 0)) (key : List Int) :
    (∃ i : Nat, i < s.length ∧ (ix s (i : Int)).Key = key ∧ Zq s key = some ((i : Int), true)) ∨ ((∀ x ∈ s, x.Key ≠ key) ∧ ∃ i, Zq s key = some (i, false)) := by
  have hbn := hB.n
  have cm : ∀ i : Nat, i < s.length → Z14 (ix s (i : Int)) key = some (bk (ix s (i : Int)).Key key) := fun i hi => by
    unfold Z14
    rw [byKey_eq _ _ (by have := hB.k _ (ix_mem hi); unfold big; omega)]; rfl
  obtain ⟨k, -, hk2, e1, hq1, hq2⟩ := bsearch (f := fun s' : Int × Int => Zq_L1 s key s'.1 s'.2) (fun i => decide (bk (ix s (i : Int)).Key key < 0)) 0 s.length (Nat.zero_le _) (fun i j hi hij hj => by
    show Zq_L1 s key (i : Int) (j : Int) = _
    unfold Zq_L1
    have e1 : w64 ((i : Int) + (j : Int)) = ((i + j : Nat) : Int) := w64n (by omega) (by unfold big; omega)
    have e2 : w64 (((i + j : Nat) : Int).tdiv 2) = (((i + j) / 2 : Nat) : Int) := by
      rw [show (2 : Int) = ((2 : Nat) : Int) from rfl, ← Int.ofNat_tdiv]; exact w64n rfl (by unfold big; omega)
    rw [if_pos (by simpa using hij), e1, e2, if_pos ⟨by omega, by omega⟩, cm _ (by omega), Option.bind_some, wi hbn (by omega)]
    split <;> rfl) (fun i _ _ => by
    show Zq_L1 s key (i : Int) (i : Int) = _
    unfold Zq_L1
    rw [nlt_]; rfl)
  have hF : Zq s key = Zq_J1 s key (k : Int) := by
    unfold Zq
    rw [show ((0 : Nat) : Int) = 0 from rfl] at e1
    rw [e1]; rfl
  have hpw := List.pairwise_iff_getElem.1 ho
  have lo : ∀ j : Nat, (hj : j < s.length) → j < k → bk s[j].Key key < 0 := fun j hj hjk => by
    have h1 := of_decide_eq_true (hq1 (by omega))
    rw [ix_at (show k - 1 < s.length by omega)] at h1
    rcases Nat.eq_or_lt_of_le (show j ≤ k - 1 by omega) with h2 | h2
    · subst h2; exact h1
    · exact bk_trans _ _ _ (hpw j (k - 1) hj (by omega) h2) h1
  rw [hF]
  unfold Zq_J1
  by_cases h1 : k < s.length
  · have e : decide ((k : Int) < (s.length : Int)) = true := by simpa using h1
    have h2 := of_decide_eq_false (hq2 h1)
    rw [e, if_pos (fun _ => ⟨by omega, by omega⟩)]
    simp only [gcall, cond_true]
    rw [cm k h1, Option.bind_some, Bool.true_and]
    by_cases h3 : bk (ix s (k : Int)).Key key = 0
    · exact .inl ⟨k, h1, bk_eq _ _ h3, by rw [h3]; rfl⟩
    · refine .inr ⟨fun x hx he => ?_, (k : Int), by simp [h3]⟩
      obtain ⟨j, hj, rfl⟩ := List.getElem_of_mem hx
      rcases Nat.lt_trichotomy j k with h4 | h4 | h4
      · have := lo j hj h4
        rw [he, bk_self] at this; omega
      · subst h4
        rw [ix_at hj, he, bk_self] at h3; exact h3 rfl
      · have := hpw k j h1 hj h4
        rw [he] at this
        rw [ix_at h1] at h2; exact h2 this
  · have e : decide ((k : Int) < (s.length : Int)) = false := by simpa using h1
    rw [e]
    refine .inr ⟨fun x hx he => ?_, (k : Int), by simp [gcall]⟩
    obtain ⟨j, hj, rfl⟩ := List.getElem_of_mem hx
    have := lo j hj (by omega)
    rw [he, bk_self] at this; omega
theorem weigh_ok (s : List Row) (hB : Bnd s) (ho : s.Pairwise (fun x y => bk x.Key y.Key < 0)) (h4 : ∀ x ∈ s, x.Key.length ≤ 4) (h0 : ∃ x ∈ s, x.Key = []) (h : List Int) (hl : h.length ≤ 1048576) :
    ∃ r, Best s h r ∧ Zu s h = some r.Weights := by
  have hpw := List.pairwise_iff_getElem.1 ho
  have key : ∀ n : Nat, n ≤ h.length → (∀ x ∈ s, x.Key <:+ h → x.Key.length ≤ n) → ∃ r, Best s h r ∧ (loopM (fun x : Int => Zu_L1 s h x) (n : Int)).bind (fun e => match e with | .inl e => some e | .inr e => Zu_J1 s) = some r.Weights := by
    intro n
    induction n with
    | zero =>
      intro _ hn
      obtain ⟨x, hx, hx0⟩ := h0
      obtain ⟨j, hj, rfl⟩ := List.getElem_of_mem hx
      have hs0 : s[0].Key = [] := by
        rcases Nat.eq_zero_or_pos j with rfl | hj0
        · exact hx0
        · have := hpw 0 j (by omega) hj hj0
          rw [hx0] at this
          unfold bk at this
          rw [if_neg (by simp)] at this
          by_cases h6 : ([] : List Int).length < (s[0]'(by omega)).Key.length
          · rw [if_pos h6] at this; omega
          · exact List.eq_nil_of_length_eq_zero (by simp at h6 ⊢; exact h6)
      refine ⟨s[0], ⟨List.getElem_mem _, by rw [hs0]; exact List.nil_suffix, fun x hx hx2 => by rw [hs0]; exact hn x hx hx2⟩, ?_⟩
      rw [loopM_end (r := .inr ()) (by
        show Zu_L1 s h _ = _
        unfold Zu_L1
        rw [if_neg (by simp)])]
      show Zu_J1 s = _
      unfold Zu_J1
      rw [if_pos ⟨by omega, by omega⟩, show (0 : Int) = ((0 : Nat) : Int) from rfl, ix_at (show 0 < s.length by omega)]
    | succ n ih =>
      intro hnl hn
      have e1 : w64 ((h.length : Int) - ((n + 1 : Nat) : Int)) = ((h.length - (n + 1) : Nat) : Int) := w64n (by omega) (by unfold big; omega)
      have e3 : sub h ((h.length - (n + 1) : Nat) : Int) (h.length : Int) = h.drop (h.length - (n + 1)) := by simp [sub]
      have hf : Zu_L1 s h ((n + 1 : Nat) : Int) = ((Zq s (h.drop (h.length - (n + 1)))).bind fun r20 : Int × Bool => if r20.2 = true then (if (0 ≤ r20.1 ∧ r20.1 < (s.length : Int)) then some (.inr (.inl ((ix s r20.1).Weights))) else none) else some (.inl (n : Int))) := by
        unfold Zu_L1
        rw [if_pos (by simp), e1, if_pos ⟨by omega, by omega, by omega⟩, e3, w64m (by unfold big; omega)]
      have hsuf : h.drop (h.length - (n + 1)) <:+ h := List.drop_suffix _ _
      rcases fnd_ok s hB ho (h.drop (h.length - (n + 1))) with ⟨i, hi, hk, e⟩ | ⟨hno, i, e⟩
      · rw [e, Option.bind_some, if_pos rfl, if_pos ⟨by simp, by simpa using hi⟩] at hf
        refine ⟨ix s (i : Int), ⟨ix_mem hi, by rw [hk]; exact hsuf, fun x hx hx2 => ?_⟩, ?_⟩
        · have := hn x hx hx2
          rw [hk]; simp; omega
        · rw [loopM_end hf]; rfl
      · rw [e, Option.bind_some, if_neg (by simp)] at hf
        rw [loopM_next hf]
        refine ih (by omega) (fun x hx hx2 => ?_)
        have h5 := hn x hx hx2
        rcases Nat.lt_or_ge x.Key.length (n + 1) with h6 | h6
        · omega
        · have h7 := List.suffix_iff_eq_drop.1 hx2
          rw [show x.Key.length = n + 1 by omega] at h7
          exact absurd h7 (hno x hx)
  unfold Zu
  by_cases h5 : h.length < 4
  · rw [if_pos (by omega)]
    exact key h.length (Nat.le_refl _) (fun x _ hx => hx.length_le)
  · rw [if_neg (by omega), show (4 : Int) = ((4 : Nat) : Int) from rfl]
    exact key 4 (by omega) (fun x hx _ => h4 x hx)
theorem weigh_of (m : Lm) (hB : Bnd m.Rows) (hP : LmP m) (s : List Row) (hs : Srtd m.Rows s) (h : List Int) (hl : h.length ≤ 1048576) : ∃ r ∈ m.Rows, Zj m h = some r.Weights ∧ Zu s h = some r.Weights := by
  obtain ⟨r, r1, r2⟩ := of_eq m hB hP h hl
  obtain ⟨q, q1, q2⟩ := weigh_ok s (hB.perm hs.p) (hs.lt hP.d) (fun x hx => by
    have := hP.r x (hs.p.mem_iff.1 hx)
    unfold rowB at this
    simp only [Bool.and_eq_true, Bool.not_eq_true', decide_eq_false_iff_not] at this
    omega) (by
    obtain ⟨x, hx, hx0⟩ := hP.e
    exact ⟨x, hs.p.mem_iff.2 hx, hx0⟩) h hl
  have : r = q := r1.uniq hP.d ⟨hs.p.mem_iff.1 q1.m, q1.e, fun x hx hx2 => q1.g x (hs.p.mem_iff.2 hx) hx2⟩
  subst this
  exact ⟨r, r1.m, r2, q2⟩
noncomputable abbrev C1 (q : List Int) : Int → Int → Option Int := fun x y => Z0n x y q
theorem symR_eq (q : List Int) (n : Nat) : ∀ (d : List Int) (a m b : Int), Z1_R n d a m b q = gSym_R (C1 q) n d a m b := by
  induction n with
  | zero => intros; rfl
  | succ n ih =>
    intro d a m b
    show Z1_S (Z1_R n) d a m b q = gSym_S (gSym_R (C1 q) n) d a m b (C1 q)
    have : (fun d a m b => Z1_R n d a m b q) = gSym_R (C1 q) n := by
      funext d a m b; exact ih d a m b
    rw [← this]
    rfl
theorem srt_eq (p q : List Int) : Z1c p q = gSrt p (C1 q) := by
  have hs : ∀ d a m b, Z1 d a m b q = gSym d a m b (C1 q) := fun d a m b => symR_eq q recFuel d a m b
  have h3 : ∀ n bs d a b, Zc_L3 n q bs d a b = gStb_L3 n (C1 q) bs d a b := fun n bs d a b => by
    unfold Zc_L3 gStb_L3; rw [hs]
  have h4 : ∀ n bs d a, Zc_J4 n q bs d a = gStb_J4 n (C1 q) bs d a := fun n bs d a => by
    unfold Zc_J4 gStb_J4; rw [hs]; rfl
  have h2 : ∀ n d bs, Zc_L2 n q d bs = gStb_L2 n (C1 q) d bs := fun n d bs => by
    unfold Zc_L2 gStb_L2; simp only [h3, h4]
  unfold Z1c gSrt Zc gStb
  unfold Zc_J1 gStb_J1
  simp only [h2]
  rfl
def TT (W : List Int) (i j : Int) : Prop := ix W i > ix W j ∨ (ix W i = ix W j ∧ i < j)
theorem TT_trans (W : List Int) (x y z : Int) (h1 : TT W x y) (h2 : TT W y z) : TT W x z := by
  unfold TT at *; omega
theorem cmpOk (W : List Int) : CmpOk (C1 W) (fun i j => decide (ix W i > ix W j)) (fun x => 0 ≤ x ∧ x < (W.length : Int)) := by
  intro x y hx hy
  refine ⟨if ix W y < ix W x then -1 else if ix W x < ix W y then 1 else 0, ?_, ?_⟩
  · show Z0n x y W = some _
    unfold Z0n Z1f
    rw [if_pos hx, if_pos hy, cmpI_eq]; rfl
  · rw [Bool.eq_iff_iff]
    simp only [decide_eq_true_eq]
    (repeat' split) <;> omega
theorem inOrder_eq (W : List Int) (h : W.length ≤ 1048576) : ∃ X, Z02 W = some X ∧ X.Perm ((List.range W.length).map fun k : Nat => (k : Int)) ∧ X.Pairwise (TT W) := by
  unfold Z02
  rw [if_pos ⟨by omega, by omega, by omega⟩]
  have hfill : loopM (fun s : (List Int) × Int => Z02_L1 W s.1 s.2) ((List.replicate (W.length : Int).toNat (0 : Int)), (0 : Int)) = some ((List.range W.length).map fun k : Nat => (k : Int)) := by
    have key : ∀ (m k : Nat), k + m = W.length → loopM (fun s : (List Int) × Int => Z02_L1 W s.1 s.2) (((List.range k).map fun k : Nat => (k : Int)) ++ List.replicate m (0 : Int), (k : Int)) = some ((List.range W.length).map fun k : Nat => (k : Int)) := by
      intro m
      induction m with
      | zero =>
        intro k hk
        obtain rfl : k = W.length := by omega
        refine loopM_end ?_
        show Z02_L1 _ _ _ = _
        unfold Z02_L1
        rw [if_neg (by simp)]
        simp
      | succ m ih =>
        intro k hk
        rw [loopM_next (s' := (((List.range (k + 1)).map fun k : Nat => (k : Int)) ++ List.replicate m (0 : Int), ((k + 1 : Nat) : Int)))]
        · exact ih (k + 1) (by omega)
        · show Z02_L1 _ _ _ = _
          unfold Z02_L1
          have e1 : w64 ((k : Int) + 1) = ((k + 1 : Nat) : Int) := by rw [w64_id (by omega) (by omega)]; omega
          rw [if_pos (by simp; omega), if_pos ⟨by omega, by simp; omega⟩, e1]
          simp only [Int.toNat_natCast]
          rw [List.replicate_succ, List.set_append_right _ _ (by simp), List.range_succ, List.map_append]
          simp
    have := key W.length 0 (by omega)
    simpa using this
  rw [hfill, Option.bind_some]
  obtain ⟨X, x1, x2, x3⟩ := gSrt_ok (T := TT W) (cmpOk W) (TT_trans W) ((List.range W.length).map fun k : Nat => (k : Int)) (by
    unfold Go.Pg.Ord
    rw [List.pairwise_map]
    refine List.Pairwise.imp_of_mem ?_ List.pairwise_lt_range
    intro i j _ _ hij
    simp only [decide_eq_true_eq, decide_eq_false_iff_not]
    unfold TT
    omega) (by
    intro x hx
    obtain ⟨k, hk, rfl⟩ := List.mem_map.1 hx
    have := List.mem_range.1 hk
    omega) (by simp; omega)
  refine ⟨X, ?_, x2, x3⟩
  unfold Z02_J1
  rw [srt_eq, x1]
  rfl
structure Odr (W X : List Int) : Prop where
  p : X.Perm ((List.range W.length).map fun k : Nat => (k : Int))
  o : X.Pairwise (TT W)
theorem Odr.len {W X : List Int} (h : Odr W X) : X.length = W.length := by rw [h.p.length_eq]; simp
theorem Odr.mem {W X : List Int} (h : Odr W X) {x : Int} : x ∈ X ↔ 0 ≤ x ∧ x < (W.length : Int) := by
  rw [h.p.mem_iff, List.mem_map]
  constructor
  · rintro ⟨k, hk, rfl⟩
    have := List.mem_range.1 hk
    omega
  · intro hx
    exact ⟨x.toNat, List.mem_range.2 (by omega), by omega⟩
theorem Odr.rng {W X : List Int} (h : Odr W X) {k : Nat} (hk : k < X.length) : 0 ≤ ix X (k : Int) ∧ ix X (k : Int) < (W.length : Int) := h.mem.1 (ix_mem hk)
structure Gt (W : List Int) (S : List Bool) (k : Nat) (x : Int) : Prop where
  none : x < 0 → x = -1 ∧ ∀ j : Nat, j < k → ix S (j : Int) = true
  some : 0 ≤ x → x < (k : Int) ∧ ix S x = false ∧ ∀ j : Nat, j < k → ix S (j : Int) = false → (j : Int) ≠ x → TT W x (j : Int)
theorem gt_ok (W : List Int) (S : List Bool) (hl : S.length = W.length) (h : W.length ≤ 1048576) : ∃ x, Zl W S = some x ∧ Gt W S W.length x := by
  have key : ∀ (m k : Nat) (x : Int), k + m = W.length → Gt W S k x → ∃ y, loopM (fun s : Int × Int => Zl_L1 W S s.1 s.2) (x, (k : Int)) = some y ∧ Gt W S W.length y := by
    intro m
    induction m with
    | zero =>
      intro k x hk hx
      obtain rfl : k = W.length := by omega
      refine ⟨x, loopM_end ?_, hx⟩
      show Zl_L1 _ _ _ _ = _
      unfold Zl_L1
      rw [if_neg (by simp)]
    | succ m ih =>
      intro k x hk hx
      have hlt : k < W.length := by omega
      have hx0 : 0 ≤ x → x < (W.length : Int) := fun h0 => by have := (hx.some h0).1; omega
      have hf : Zl_L1 W S x (k : Int) = some (.inl ((if ((!(ix S (k : Int))) && ((decide (x < 0)) || (decide (ix W (k : Int) > ix W x)))) = true then (k : Int) else x), ((k + 1 : Nat) : Int))) := by
        unfold Zl_L1
        rw [if_pos (lt_ hlt), if_pos ⟨by omega, by omega⟩, if_pos (fun _ _ => inr_ hlt), if_pos (fun _ h2 => by
          have := of_decide_eq_false h2
          exact ⟨by omega, hx0 (by omega)⟩)]
        unfold Zl_J2
        rw [wi h hlt]
        split <;> rfl
      rw [loopM_next (s' := (_, ((k + 1 : Nat) : Int))) hf]
      apply ih (k + 1) _ (by omega)
      cases hS : ix S (k : Int) with
      | true =>
        rw [if_neg (by simp)]
        refine ⟨fun h0 => ⟨(hx.none h0).1, fun j hj => ?_⟩, fun h0 => ⟨by have := (hx.some h0).1; omega, (hx.some h0).2.1, fun j hj hj2 hj3 => ?_⟩⟩
        · rcases Nat.lt_or_ge j k with h6 | h6
          · exact (hx.none h0).2 j h6
          · obtain rfl : j = k := by omega
            exact hS
        · rcases Nat.lt_or_ge j k with h6 | h6
          · exact (hx.some h0).2.2 j h6 hj2 hj3
          · obtain rfl : j = k := by omega
            rw [hS] at hj2; cases hj2
      | false =>
        by_cases h0 : x < 0
        · rw [if_pos (by simp [h0])]
          refine ⟨fun h1 => by omega, fun _ => ⟨by omega, hS, fun j hj hj2 hj3 => ?_⟩⟩
          have := (hx.none h0).2 j (by omega)
          rw [hj2] at this; cases this
        · obtain ⟨a1, a2, a3⟩ := hx.some (by omega)
          by_cases h1 : ix W (k : Int) > ix W x
          · rw [if_pos (by simp; right; exact h1)]
            refine ⟨fun h1 => by omega, fun _ => ⟨by omega, hS, fun j hj hj2 hj3 => ?_⟩⟩
            by_cases h6 : (j : Int) = x
            · rw [h6]; exact .inl h1
            · exact TT_trans W _ _ _ (.inl h1) (a3 j (by omega) hj2 h6)
          · rw [if_neg (by simp; omega)]
            refine ⟨fun h1 => by omega, fun _ => ⟨by omega, a2, fun j hj hj2 hj3 => ?_⟩⟩
            rcases Nat.lt_or_ge j k with h6 | h6
            · exact a3 j h6 hj2 hj3
            · obtain rfl : j = k := by omega
              unfold TT; omega
  obtain ⟨y, y1, y2⟩ := key W.length 0 (-1) (by omega) ⟨fun _ => ⟨rfl, fun j hj => absurd hj (Nat.not_lt_zero _)⟩, fun h0 => by omega⟩
  refine ⟨y, ?_, y2⟩
  unfold Zl
  rw [show (0 : Int) = ((0 : Nat) : Int) from rfl, y1]; rfl
def Tk (S : List Bool) (W X : List Int) (n : Nat) : Prop := S.length = W.length ∧ ∀ j : Nat, j < W.length → (ix S (j : Int) = true ↔ (j : Int) ∈ X.take n)
theorem gt_at {W X : List Int} (hO : Odr W X) (S : List Bool) (n : Nat) (hn : n < W.length) (hS : Tk S W X n) (h : W.length ≤ 1048576) : Zl W S = some (ix X (n : Int)) := by
  obtain ⟨x, e, g⟩ := gt_ok W S hS.1 h
  rw [e]
  congr 1
  have hnX : n < X.length := by rw [hO.len]; exact hn
  have hr := hO.rng hnX
  have hnd : X.Nodup := hO.o.imp (fun {x y} hxy => by
    rintro rfl
    unfold TT at hxy; omega)
  have hnot : ix X (n : Int) ∉ X.take n := by
    intro hm
    rw [ix_at hnX] at hm
    obtain ⟨i, hi, he⟩ := List.mem_take_iff_getElem.1 hm
    have := (List.getElem_inj hnd).1 he
    omega
  have hf : ix S (ix X (n : Int)) = false := by
    have := (hS.2 (ix X (n : Int)).toNat (by omega))
    rw [Int.toNat_of_nonneg hr.1] at this
    cases hb : ix S (ix X (n : Int)) with
    | false => rfl
    | true => exact absurd (this.1 hb) hnot
  have h0 : 0 ≤ x := by
    rcases Int.lt_or_le x 0 with h0 | h0
    · have := (g.none h0).2 (ix X (n : Int)).toNat (by omega)
      rw [Int.toNat_of_nonneg hr.1, hf] at this; cases this
    · exact h0
  obtain ⟨a1, a2, a3⟩ := g.some h0
  by_cases hx : x = ix X (n : Int)
  · exact hx
  · exfalso
    have b1 := a3 (ix X (n : Int)).toNat (by omega) (by rw [Int.toNat_of_nonneg hr.1]; exact hf) (by rw [Int.toNat_of_nonneg hr.1]; exact fun h => hx h.symm)
    rw [Int.toNat_of_nonneg hr.1] at b1
    -- x stands behind place n
    have hxm : x ∈ X := hO.mem.2 ⟨h0, a1⟩
    obtain ⟨i, hi, rfl⟩ := List.getElem_of_mem hxm
    have hin : ¬ i < n := by
      intro hlt
      have h5 : X[i] ∈ X.take n := List.mem_take_iff_getElem.2 ⟨i, by omega, rfl⟩
      have h6 := hS.2 X[i].toNat (by omega)
      rw [Int.toNat_of_nonneg h0] at h6
      rw [h6.2 h5] at a2; cases a2
    have hin2 : i ≠ n := fun h => hx (by subst h; rw [ix_at hnX])
    have b2 := List.pairwise_iff_getElem.1 hO.o n i hnX hi (by omega)
    rw [ix_at hnX] at b1
    unfold TT at b1 b2
    omega
theorem Tk.next {S : List Bool} {W X : List Int} {n : Nat} (h : Tk S W X n) (hO : Odr W X) (hn : n < W.length) : Tk (S.set (ix X (n : Int)).toNat true) W X (n + 1) := by
  have hnX : n < X.length := by rw [hO.len]; exact hn
  have hr := hO.rng hnX
  refine ⟨by rw [List.length_set]; exact h.1, fun j hj => ?_⟩
  rw [List.take_succ_eq_append_getElem hnX, List.mem_append, List.mem_singleton, ← ix_at hnX]
  by_cases he : (ix X (n : Int)).toNat = j
  · subst he
    rw [ix_set (by rw [h.1]; omega), Int.toNat_of_nonneg hr.1]
    simp
  · rw [ix_set_ne he, h.2 j hj]
    constructor
    · exact .inl
    · rintro (h1 | h1)
      · exact h1
      · omega
end Go.Proofs.Ytkfgngcfcoplpaa
