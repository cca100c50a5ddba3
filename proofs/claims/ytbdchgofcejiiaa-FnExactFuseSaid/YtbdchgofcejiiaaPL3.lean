import Derived.Test.YtbdchgofcejiiaaPL2
set_option linter.unusedVariables false
set_option linter.unusedSimpArgs false
namespace Go.Proofs.Ytbdchgofcejiiaa
open Go Go.Pg
theorem andp {a b : Prop} (h : a) (k : b) : a ∧ b := ⟨h, k⟩
theorem inr_ {k : Nat} {n : Nat} (h : k < n) : (0 : Int) ≤ (k : Int) ∧ (k : Int) < (n : Int) := ⟨by omega, by omega⟩
theorem lt_ {k : Nat} {n : Nat} (h : k < n) : (decide ((k : Int) < (n : Int))) = true := by simpa using h
theorem nlt_ {n : Nat} : (decide ((n : Int) < (n : Int))) = false := by simp
theorem l7Has_eq (xs : List Int) (p : Int) (h : xs.length < big) : spec_l7Has xs p = some (decide (p ∈ xs)) := by
  unfold spec_l7Has
  rw [loop_all xs (fun s : Int => spec_l7Has_L1 xs p s) (fun i => i) (fun x => !(x == p)) (.inl true) (.inr ()) (fun k hk => by
    unfold spec_l7Has_L1
    rw [if_pos (lt_ hk), if_pos (inr_ hk), w64k (by omega)]
    cases (ix xs (k : Int) == p) <;> rfl) (by unfold spec_l7Has_L1; simp only [nlt_, Bool.false_eq_true, if_false])]
  rw [bind_some']
  by_cases hp : p ∈ xs
  · rw [if_neg (by simpa using hp)]; simp [hp]
  · rw [if_pos (by simp only [List.all_eq_true, Bool.not_eq_true', beq_eq_false_iff_ne]; exact fun x hx e => hp (e ▸ hx))]; simp [hp, spec_l7Has_J1]
theorem within_eq (xs : List Int) (n : Int) (h : xs.length < big) : spec_l4Within xs n = some (xs.all fun x => decide (0 ≤ x) && decide (x < n)) := by
  unfold spec_l4Within
  rw [loop_all xs (fun s : Int => spec_l4Within_L1 xs n s) (fun i => i) (fun x => decide (0 ≤ x) && decide (x < n)) (.inl false) (.inr ()) (fun k hk => by
    unfold spec_l4Within_L1
    rw [if_pos (lt_ hk), if_pos (inr_ hk), w64k (by omega)]
    by_cases q1 : ix xs (k : Int) < 0 <;> by_cases q2 : ix xs (k : Int) < n
    · simp [q1, q2]
    · simp [q1, q2]
    · simp [q1, q2, Int.not_lt.1 q1, Int.not_le.2 q2]
    · simp [q1, q2, Int.not_lt.1 q2]) (by unfold spec_l4Within_L1; simp only [nlt_, Bool.false_eq_true, if_false])]
  rw [bind_some']
  cases hh : (xs.all fun x => decide (0 ≤ x) && decide (x < n)) <;> rfl
def num (x : Int) : Bool := decide (x ≥ 0) && decide (x < 2147483647)
theorem allNums_eq (xs : List Int) (h : xs.length < big) : impl_allNums xs = some (xs.all num) := by
  unfold impl_allNums
  rw [loop_all xs (fun s : Int => impl_allNums_L1 xs s) (fun i => i) num (.inl false) (.inr ()) (fun k hk => by
    unfold impl_allNums_L1
    rw [if_pos (lt_ hk), if_pos (inr_ hk), w64k (by omega)]
    show (some (num (ix xs (k : Int)))).bind _ = _
    rw [bind_some']
    cases num (ix xs (k : Int)) <;> rfl) (by unfold impl_allNums_L1; simp only [nlt_, Bool.false_eq_true, if_false])]
  rw [bind_some']
  cases hh : xs.all num <;> rfl
theorem rowOk_eq (xs : List Int) (h : xs.length < big) : spec_l5RowOk xs = some (xs.all num && decide (0 < xs.length) && decide (xs.length ≤ 4096)) := by
  unfold spec_l5RowOk
  rw [loop_all xs (fun s : Int => spec_l5RowOk_L1 xs s) (fun i => i) num (.inl false) (.inr ()) (fun k hk => by
    unfold spec_l5RowOk_L1 num
    rw [if_pos (lt_ hk), if_pos (inr_ hk), w64k (by omega)]
    by_cases q1 : ix xs (k : Int) < 0 <;> by_cases q2 : ix xs (k : Int) < 2147483647
    · simp [q1, q2, Int.not_le.2 q1]
    · simp [q1, q2, Int.not_le.2 q1]
    · simp [q1, q2, Int.not_lt.1 q1, Int.not_le.2 q2]
    · simp [q1, q2, Int.not_lt.1 q1, Int.not_lt.1 q2]) (by unfold spec_l5RowOk_L1; simp only [nlt_, Bool.false_eq_true, if_false])]
  rw [bind_some']
  cases hh : xs.all num
  · rfl
  · have e1 : decide ((xs.length : Int) > 0) = decide (0 < xs.length) := decide_eq_decide.2 (by omega)
    have e2 : decide ((xs.length : Int) ≤ 4096) = decide (xs.length ≤ 4096) := decide_eq_decide.2 (by omega)
    simp only [if_true, spec_l5RowOk_J1, e1, e2, Bool.true_and]
theorem all_range_eq (xs ys : List Int) (h : xs.length = ys.length) : ((List.range xs.length).all fun k => ix xs (k : Int) == ix ys (k : Int)) = decide (xs = ys) := by
  by_cases e : xs = ys
  · subst e; simp
  · simp only [e, decide_false]
    rw [List.all_eq_false]
    refine Classical.byContradiction fun hn => e ?_
    refine List.ext_getElem h fun k h1 h2 => ?_
    refine Classical.byContradiction fun hne => hn ⟨k, by simpa using h1, ?_⟩
    rw [ix_at h1, ix_at h2]
    simpa using hne
theorem same_eq (xs ys : List Int) (h : xs.length < big) : spec_l3SameInts xs ys = some (decide (xs = ys)) := by
  unfold spec_l3SameInts
  by_cases hl : xs.length = ys.length
  · rw [if_neg (by simp [hl])]
    rw [loop_allI xs.length (fun s : Int => spec_l3SameInts_L1 xs ys s) (fun i => i) (fun k => ix xs (k : Int) == ix ys (k : Int)) (.inl false) (.inr ()) (fun k hk => by
      unfold spec_l3SameInts_L1
      rw [if_pos (lt_ hk), if_pos (inr_ hk), if_pos (inr_ (hl ▸ hk)), w64k (by omega)]
      by_cases hq : ix xs (k : Int) = ix ys (k : Int)
      · simp [hq]
      · simp [hq]) (by unfold spec_l3SameInts_L1; simp only [nlt_, Bool.false_eq_true, if_false])]
    rw [all_range_eq xs ys hl, bind_some']
    by_cases e : xs = ys <;> simp [e, spec_l3SameInts_J1]
  · rw [if_pos (by simp; omega)]
    have : xs ≠ ys := fun e => hl (by rw [e])
    simp [this]
theorem equal_same (xs ys : List Int) : slices_Equal_int_int xs ys = spec_l3SameInts xs ys := rfl
theorem eqIntS_same (xs ys : List Int) : laws_eqIntS xs ys = spec_l3SameInts xs ys := rfl
theorem strides_same (xs : List Int) : spec_l11Strides xs = impl_steps xs := rfl
theorem index_eq (xs : List Int) (v : Int) (h : xs.length < big) : ∃ r : Int, slices_Index_int_int xs v = some r ∧ (decide (r ≥ 0)) = decide (v ∈ xs) := by
  unfold slices_Index_int_int
  rw [loop_goI (S := Unit) xs (fun _ _ => True) (fun s : Int => slices_Index_int_int_L1 xs v s) (fun _ i => i) (fun _ k x => if v == x then .inr (.inl (k : Int)) else .inl ()) (fun _ => .inr ()) ?_ (fun _ _ _ _ _ _ => trivial) ?_ () trivial]
  · rw [bind_some']
    have key : ∀ (ys : List Int) (j : Nat), ∃ r : Int, (match goI (S := Unit) (R := Int ⊕ Unit) (fun _ k x => if v == x then .inr (.inl (k : Int)) else .inl ()) (fun _ => .inr ()) ys j () with | .inl e => some e | .inr e => slices_Index_int_int_J1) = some r ∧ (decide (r ≥ 0)) = decide (v ∈ ys) := by
      intro ys
      induction ys with
      | nil => intro j; exact ⟨-1, rfl, by simp⟩
      | cons y ys ih =>
        intro j
        unfold goI
        by_cases hv : v = y
        · refine ⟨(j : Int), by simp [hv], by simp [hv]⟩
        · simp only [beq_iff_eq, hv, if_false]
          obtain ⟨r, h1, h2⟩ := ih (j + 1)
          refine ⟨r, by simpa using h1, by rw [h2]; simp [hv]⟩
    exact key xs 0
  · intro s k _ hk
    unfold slices_Index_int_int_L1
    rw [if_pos (lt_ hk), if_pos (inr_ hk), w64k (by omega)]
    cases (v == ix xs (k : Int)) <;> rfl
  · intro s _
    unfold slices_Index_int_int_L1; simp only [nlt_, Bool.false_eq_true, if_false]
theorem contains_eq (xs : List Int) (v : Int) (h : xs.length < big) : slices_Contains_int_int xs v = some (decide (v ∈ xs)) := by
  unfold slices_Contains_int_int
  obtain ⟨r, h1, h2⟩ := index_eq xs v h
  rw [h1, bind_some', h2]
def prodL : List Int → Int → Option Int
  | [], n => some n
  | a :: t, n => if a < 1 ∨ a > 65536 ∨ n * a > 65536 then none else prodL t (n * a)
theorem mul_bd {n a : Int} (h1 : 1 ≤ n) (h2 : n ≤ 65536) (h3 : 1 ≤ a) (h4 : a ≤ 65536) : 1 ≤ n * a ∧ n * a ≤ 4294967296 := by
  have e1 : 1 * 1 ≤ n * a := Int.mul_le_mul h1 h3 (by omega) (by omega)
  have e2 : n * a ≤ 65536 * 65536 := Int.mul_le_mul h2 h4 (by omega) (by omega)
  omega
theorem prod_eq (xs : List Int) (h : xs.length < big) : spec_l11Product xs = some ((prodL xs 1).getD 0) := by
  unfold spec_l11Product
  rw [loop_goI (S := Int) xs (fun _ s => 1 ≤ s ∧ s ≤ 65536) (fun s : Int × Int => spec_l11Product_L1 xs s.1 s.2) (fun s i => (s, i)) (fun s _ a => if a < 1 ∨ a > 65536 ∨ s * a > 65536 then .inr (.inl 0) else .inl (s * a)) (fun s => .inr s) ?_ ?_ ?_ 1 ⟨by decide, by decide⟩]
  · rw [bind_some']
    have key : ∀ (ys : List Int) (n : Int) (j : Nat), (match goI (R := Int ⊕ Int) (fun s _ a => if a < 1 ∨ a > 65536 ∨ s * a > 65536 then .inr (.inl 0) else .inl (s * a)) (fun s => .inr s) ys j n with | .inl e => some e | .inr e => spec_l11Product_J1 e) = some ((prodL ys n).getD 0) := by
      intro ys
      induction ys with
      | nil => intro n j; rfl
      | cons a t ih =>
        intro n j
        unfold goI prodL
        by_cases hc : a < 1 ∨ a > 65536 ∨ n * a > 65536
        · simp only [if_pos hc]; rfl
        · simp only [if_neg hc]; exact ih _ _
    exact key xs 1 0
  · rintro s k ⟨i0, i1⟩ hk
    show spec_l11Product_L1 xs s (k : Int) = _
    unfold spec_l11Product_L1
    rw [if_pos (lt_ hk), if_pos (inr_ hk), w64k (by omega)]
    generalize ix xs (k : Int) = a
    by_cases c1 : a < 1
    · simp [c1]
    · by_cases c2 : a > 65536
      · simp [c1, c2]
      · have := mul_bd i0 i1 (by omega) (by omega : a ≤ 65536)
        rw [w64_id (n := s * a) (by omega) (by omega)]
        by_cases c3 : s * a > 65536
        · simp [c1, c2, c3]
        · simp [c1, c2, c3]
  · rintro s k s' ⟨i0, i1⟩ hk hs
    generalize ix xs (k : Int) = a at hs
    split at hs
    · cases hs
    · rename_i hc
      injection hs with hs
      subst hs
      have := mul_bd i0 i1 (by omega) (by omega : a ≤ 65536)
      omega
  · rintro s _
    show spec_l11Product_L1 xs s (xs.length : Int) = _
    unfold spec_l11Product_L1; simp only [nlt_, Bool.false_eq_true, if_false]
theorem work_eq (xs : List Int) (h : xs.length < big) : impl_work xs = some (match prodL xs 1 with | some n => (n, decide (xs.length ≤ 12)) | none => (0, false)) := by
  unfold impl_work
  rw [loop_goI (S := Int) xs (fun _ s => 1 ≤ s ∧ s ≤ 65536) (fun s : Int × Int => impl_work_L1 xs s.1 s.2) (fun s i => (s, i)) (fun s _ a => if a < 1 ∨ a > 65536 ∨ s * a > 65536 then .inr (.inl (0, false)) else .inl (s * a)) (fun s => .inr s) ?_ ?_ ?_ 1 ⟨by decide, by decide⟩]
  · rw [bind_some']
    have hd : decide ((xs.length : Int) ≤ 12) = decide (xs.length ≤ 12) := by simp; omega
    unfold impl_work_J1
    rw [hd]
    generalize decide (xs.length ≤ 12) = q
    have key : ∀ (ys : List Int) (n : Int) (j : Nat), (match goI (R := (Int × Bool) ⊕ Int) (fun s _ a => if a < 1 ∨ a > 65536 ∨ s * a > 65536 then .inr (.inl (0, false)) else .inl (s * a)) (fun s => .inr s) ys j n with | .inl e => some e | .inr e => some (e, q)) = some (match prodL ys n with | some n => (n, q) | none => (0, false)) := by
      intro ys
      induction ys with
      | nil => intro n j; rfl
      | cons a t ih =>
        intro n j
        unfold goI prodL
        by_cases hc : a < 1 ∨ a > 65536 ∨ n * a > 65536
        · simp only [if_pos hc]
        · simp only [if_neg hc]; exact ih _ _
    exact key xs 1 0
  · rintro s k ⟨i0, i1⟩ hk
    show impl_work_L1 xs s (k : Int) = _
    unfold impl_work_L1
    rw [if_pos (lt_ hk), if_pos (inr_ hk), w64k (by omega)]
    generalize ix xs (k : Int) = a
    by_cases c1 : a < 1
    · simp [c1]
    · by_cases c2 : a > 65536
      · simp [c1, c2]
      · have := mul_bd i0 i1 (by omega) (by omega : a ≤ 65536)
        rw [w64_id (n := s * a) (by omega) (by omega)]
        by_cases c3 : s * a > 65536
        · simp [c1, c2, c3]
        · simp [c1, c2, c3]
  · rintro s k s' ⟨i0, i1⟩ hk hs
    generalize ix xs (k : Int) = a at hs
    split at hs
    · cases hs
    · rename_i hc
      injection hs with hs
      subst hs
      have := mul_bd i0 i1 (by omega) (by omega : a ≤ 65536)
      omega
  · rintro s _
    show impl_work_L1 xs s (xs.length : Int) = _
    unfold impl_work_L1; simp only [nlt_, Bool.false_eq_true, if_false]
theorem prodL_pos {xs : List Int} {n r : Int} (h1 : 1 ≤ n) (h2 : n ≤ 65536) (h : prodL xs n = some r) : 1 ≤ r ∧ r ≤ 65536 ∧ ∀ x ∈ xs, 1 ≤ x ∧ x ≤ 65536 := by
  induction xs generalizing n with
  | nil => injection h with h; subst h; exact ⟨h1, h2, fun _ h => by cases h⟩
  | cons a t ih =>
    unfold prodL at h
    split at h
    · cases h
    · rename_i hc
      have := mul_bd h1 h2 (by omega) (by omega : a ≤ 65536)
      obtain ⟨q1, q2, q3⟩ := ih (by omega) (by omega) h
      refine ⟨q1, q2, fun x hx => ?_⟩
      rcases List.mem_cons.1 hx with rfl | hx
      · omega
      · exact q3 x hx
end Go.Proofs.Ytbdchgofcejiiaa
