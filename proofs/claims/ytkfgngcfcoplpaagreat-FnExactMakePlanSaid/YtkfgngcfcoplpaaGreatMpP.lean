import Derived.Test.YtkfgngcfcoplpaaGreatMpF
import Derived.Test.YtkfgngcfcoplpaaGreatPL1
set_option linter.unusedVariables false
set_option linter.unusedSimpArgs false
namespace Go.Proofs.YtkfgngcfcoplpaaGreat
open Go Go.Pg
noncomputable def Z12_J1 : Option (Bool) :=
 some true
noncomputable def Z12_L1 (a1 : (List Int)) (b3 : (List Int)) (i14 : Int) : Option ((Int) ⊕ ((Bool) ⊕ (Unit))) :=
 if (decide (i14 < (a1.length : Int))) = true then (
 if (0 ≤ i14 ∧ i14 < (a1.length : Int)) then
 if (0 ≤ i14 ∧ i14 < (b3.length : Int)) then
 if ((ix a1 i14) != (ix b3 i14)) = true then (
 some (.inr (.inl false)))
 else (
 some (.inl (w64 (i14 + (1 : Int)))))
 else none
 else none)
 else (
 some (.inr (.inr ())))
noncomputable def Z12 (a1 : (List Int)) (b3 : (List Int)) : Option (Bool) :=
 if ((a1.length : Int) != (b3.length : Int)) = true then (
 some false)
 else (
 (loopM (fun s : Int => Z12_L1 a1 b3 s) (0 : Int)).bind fun e => match e with
 | .inl e => some e
 | .inr e => Z12_J1)
def lim : Nat := 9223372036854775807
def szR (n : Nat) (left : Int) : Int := if left < (n : Int) then -1 else left - n
def nFix (x : Fix) : Nat := x.Data.length
def nAcc (x : Access) : Nat := x.Steps.length
def sumN {α : Type} (n : α → Nat) (xs : List α) : Nat := xs.length + (xs.map n).sum
def nKer (x : Kernel) : Nat := x.Loops.length + sumN nAcc x.Loads + nAcc x.Store + x.Code.length
def nNest (x : Nest) : Nat := x.Sizes.length + x.Ins.length + sumN nFix x.Fixed + sumN nKer x.Kernels + x.Outs.length
theorem szR_add {a b : Nat} {left : Int} (h0 : 0 ≤ left) : szR (a + b) left = if szR a left < 0 then -1 else szR b (szR a left) := by
  unfold szR
  (repeat' split) <;> omega
theorem szR_le {a : Nat} {left : Int} (h0 : 0 ≤ left) (h : ¬ szR a left < 0) : 0 ≤ szR a left ∧ szR a left ≤ left ∧ szR a left = left - a := by
  unfold szR at *
  split at h <;> rename_i q
  · exact absurd (by decide) h
  · rw [if_neg q]; omega
theorem sz_flat {n : Nat} {left : Int} (hn : n ≤ lim) (h0 : 0 ≤ left) (h1 : left ≤ 1048576) :
    (if (decide ((w64 (left - (n : Int))) < (0 : Int))) = true then (some (-1 : Int)) else (some (w64 (left - (n : Int))))) = some (szR n left) := by
  unfold lim at hn
  rw [w64_id (by omega) (by omega)]
  unfold szR
  by_cases h : left < (n : Int)
  · rw [if_pos (by simp; omega), if_pos h]
  · rw [if_neg (by simp; omega), if_neg h]
theorem sz_loop {α : Type} [Inhabited α] (xs : List α) (n : α → Nat) (hx : xs.length < big) (g : α → Int → Option Int) (f : Int × Int → Option ((Int × Int) ⊕ (Int ⊕ Int)))
    (hg : ∀ x ∈ xs, ∀ left : Int, 0 ≤ left → left ≤ 1048576 → g x left = some (szR (n x) left))
    (hf : ∀ left i, f (left, i) = if (decide (i < (xs.length : Int))) = true then (if (0 ≤ i ∧ i < (xs.length : Int)) then (g (ix xs i) left).bind fun (r : Int) => if (decide (r < (0 : Int))) = true then (some (.inr (.inl (-1 : Int)))) else (some (.inl (r, (w64 (i + (1 : Int)))))) else none) else (some (.inr (.inr left))))
    (left : Int) (h0 : 0 ≤ left) (h1 : left ≤ 1048576) :
    ((loopM f (left, 0)).bind fun e => match e with | .inl e => some e | .inr e => some e) = some (szR ((xs.map n).sum) left) := by
  rw [loop_goI (S := Int) xs (fun _ s => 0 ≤ s ∧ s ≤ 1048576) f (fun s i => (s, i)) (fun s _ x => if szR (n x) s < 0 then .inr (.inl (-1)) else .inl (szR (n x) s)) (fun s => .inr s) ?_ ?_ ?_ left ⟨h0, h1⟩]
  · rw [bind_some']
    clear hf hx
    generalize 0 = k
    induction xs generalizing left k with
    | nil => show some left = some (szR 0 left); unfold szR; rw [if_neg (by omega)]; congr 1; simp
    | cons x xs ih =>
      unfold goI
      rw [List.map_cons, List.sum_cons, szR_add h0]
      by_cases h : szR (n x) left < 0
      · simp only [h, if_true]
      · obtain ⟨q1, q2, _⟩ := szR_le h0 h
        simp only [h, if_false]
        exact ih (fun y hy => hg y (by simp [hy])) _ q1 (by omega) _
  · rintro s k ⟨i0, i1⟩ hk
    rw [hf, if_pos (by simpa using hk), if_pos (by omega), hg _ (ix_mem hk) s i0 i1, bind_some', w64k (by omega)]
    by_cases h : szR (n (ix xs (k : Int))) s < 0
    · simp [h]
    · simp [h]
  · rintro s k s' ⟨i0, i1⟩ hk hs
    split at hs
    · cases hs
    · rename_i h
      obtain ⟨q1, q2, _⟩ := szR_le i0 h
      injection hs with hs
      subst hs
      exact ⟨q1, by omega⟩
  · rintro s ⟨i0, i1⟩
    rw [hf, if_neg (by simp)]
def CapA (x : Access) : Prop := x.Steps.length ≤ lim
def CapL {α : Type} (p : α → Prop) (xs : List α) : Prop := xs.length ≤ lim ∧ ∀ x ∈ xs, p x
def CapF (x : Fix) : Prop := x.Data.length ≤ lim
def CapK (x : Kernel) : Prop := x.Loops.length ≤ lim ∧ CapL CapA x.Loads ∧ CapA x.Store ∧ x.Code.length ≤ lim
def CapN (x : Nest) : Prop := x.Sizes.length ≤ lim ∧ x.Ins.length ≤ lim ∧ CapL CapF x.Fixed ∧ CapL CapK x.Kernels ∧ x.Outs.length ≤ lim
theorem szIntS_eq {xs : List Int} {left : Int} (hn : xs.length ≤ lim) (h0 : 0 ≤ left) (h1 : left ≤ 1048576) : Z0w xs left = some (szR xs.length left) := sz_flat hn h0 h1
theorem szCalcS_eq {xs : List Calc} {left : Int} (hn : xs.length ≤ lim) (h0 : 0 ≤ left) (h1 : left ≤ 1048576) : Z22 xs left = some (szR xs.length left) := sz_flat hn h0 h1
theorem ifneg {r : Int} (h : r < 0 → r = -1) : (if (decide (r < (0 : Int))) = true then (some (-1 : Int)) else (some r)) = some r := by
  by_cases q : r < 0
  · rw [if_pos (by simpa using q), h q]
  · rw [if_neg (by simpa using q)]
theorem szR_neg {a : Nat} {left : Int} (h0 : 0 ≤ left) (h : szR a left < 0) : szR a left = -1 := by
  unfold szR at *
  split
  · rfl
  · rename_i q; rw [if_neg q] at h; omega
theorem szFix_eq {x : Fix} {left : Int} (hc : CapF x) (h0 : 0 ≤ left) (h1 : left ≤ 1048576) : Z1h x left = some (szR (nFix x) left) := by
  unfold Z1h
  rw [szIntS_eq hc h0 h1, bind_some', ifneg (szR_neg h0)]
  rfl
theorem szAcc_eq {x : Access} {left : Int} (hc : CapA x) (h0 : 0 ≤ left) (h1 : left ≤ 1048576) : Z16 x left = some (szR (nAcc x) left) := by
  unfold Z16
  rw [szIntS_eq hc h0 h1, bind_some', ifneg (szR_neg h0)]
  rfl
theorem sz_list {α : Type} [Inhabited α] {xs : List α} {n : α → Nat} {left : Int} {x : Int → Option Int} (hn : xs.length ≤ lim) (h0 : 0 ≤ left) (h1 : left ≤ 1048576) (hx : ¬ szR xs.length left < 0 → x (szR xs.length left) = some (szR ((xs.map n).sum) (szR xs.length left))) :
    (if (decide ((w64 (left - (xs.length : Int))) < (0 : Int))) = true then (some (-1 : Int)) else x (w64 (left - (xs.length : Int)))) = some (szR (sumN n xs) left) := by
  have hn' := hn
  unfold lim at hn'
  unfold sumN
  rw [szR_add h0]
  have e : w64 (left - (xs.length : Int)) = left - xs.length := w64_id (by omega) (by omega)
  rw [e]
  by_cases h : left < (xs.length : Int)
  · rw [if_pos (by simp; omega), if_pos (by unfold szR; rw [if_pos h]; omega)]
  · have e2 : szR xs.length left = left - xs.length := by unfold szR; rw [if_neg h]
    rw [if_neg (by simp; omega), if_neg (by rw [e2]; omega)]
    have := hx (by rw [e2]; omega)
    rw [e2] at this ⊢
    exact this
theorem szFixS_eq {xs : List Fix} {left : Int} (hc : CapL CapF xs) (h0 : 0 ≤ left) (h1 : left ≤ 1048576) : Z0q xs left = some (szR (sumN nFix xs) left) := by
  unfold Z0q
  refine sz_list (x := fun l => (loopM (fun s : Int × Int => Z0q_L1 xs s.1 s.2) (l, (0 : Int))).bind fun e => match e with | .inl e => some e | .inr e => Z0q_J1 e) hc.1 h0 h1 (fun h => ?_)
  obtain ⟨q1, q2, q3⟩ := szR_le h0 h
  exact sz_loop xs nFix (by unfold big; omega) Z1h _ (fun x hx left => szFix_eq (hc.2 x hx)) (fun _ _ => rfl) _ q1 (by omega)
theorem szAccessS_eq {xs : List Access} {left : Int} (hc : CapL CapA xs) (h0 : 0 ≤ left) (h1 : left ≤ 1048576) : Z0p xs left = some (szR (sumN nAcc xs) left) := by
  unfold Z0p
  refine sz_list (x := fun l => (loopM (fun s : Int × Int => Z0p_L1 xs s.1 s.2) (l, (0 : Int))).bind fun e => match e with | .inl e => some e | .inr e => Z0p_J1 e) hc.1 h0 h1 (fun h => ?_)
  obtain ⟨q1, q2, q3⟩ := szR_le h0 h
  exact sz_loop xs nAcc (by unfold big; omega) Z16 _ (fun x hx left => szAcc_eq (hc.2 x hx)) (fun _ _ => rfl) _ q1 (by omega)
theorem szKernel_eq {x : Kernel} {left : Int} (hc : CapK x) (h0 : 0 ≤ left) (h1 : left ≤ 1048576) : Z1k x left = some (szR (nKer x) left) := by
  obtain ⟨c1, c2, c3, c4⟩ := hc
  unfold Z1k nKer
  rw [szIntS_eq c1 h0 h1, bind_some', szR_add h0, szR_add h0, szR_add h0]
  by_cases h : szR x.Loops.length left < 0
  · simp [h]
  · obtain ⟨q1, q2, _⟩ := szR_le h0 h
    rw [if_neg (by simpa using h), szAccessS_eq c2 q1 (by omega), bind_some', if_neg h]
    by_cases h : szR (sumN nAcc x.Loads) (szR x.Loops.length left) < 0
    · simp [h]
    · obtain ⟨q3, q4, _⟩ := szR_le q1 h
      rw [if_neg (by simpa using h), szAcc_eq c3 q3 (by omega), bind_some', if_neg h]
      by_cases h : szR (nAcc x.Store) (szR (sumN nAcc x.Loads) (szR x.Loops.length left)) < 0
      · simp [h]
      · obtain ⟨q5, q6, _⟩ := szR_le q3 h
        rw [if_neg (by simpa using h), szCalcS_eq c4 q5 (by omega), bind_some', if_neg h, ifneg (szR_neg q5)]
theorem szKernelS_eq {xs : List Kernel} {left : Int} (hc : CapL CapK xs) (h0 : 0 ≤ left) (h1 : left ≤ 1048576) : Z0o xs left = some (szR (sumN nKer xs) left) := by
  unfold Z0o
  refine sz_list (x := fun l => (loopM (fun s : Int × Int => Z0o_L1 xs s.1 s.2) (l, (0 : Int))).bind fun e => match e with | .inl e => some e | .inr e => Z0o_J1 e) hc.1 h0 h1 (fun h => ?_)
  obtain ⟨q1, q2, q3⟩ := szR_le h0 h
  exact sz_loop xs nKer (by unfold big; omega) Z1k _ (fun x hx left => szKernel_eq (hc.2 x hx)) (fun _ _ => rfl) _ q1 (by omega)
theorem szNest_eq {x : Nest} {left : Int} (hc : CapN x) (h0 : 0 ≤ left) (h1 : left ≤ 1048576) : Z1s x left = some (szR (nNest x) left) := by
  obtain ⟨c1, c2, c3, c4, c5⟩ := hc
  unfold Z1s nNest
  rw [szIntS_eq c1 h0 h1, bind_some', szR_add h0, szR_add h0, szR_add h0, szR_add h0]
  by_cases h : szR x.Sizes.length left < 0
  · simp [h]
  · obtain ⟨q1, q2, _⟩ := szR_le h0 h
    rw [if_neg (by simpa using h), szIntS_eq c2 q1 (by omega), bind_some', if_neg h]
    by_cases h : szR x.Ins.length (szR x.Sizes.length left) < 0
    · simp [h]
    · obtain ⟨q3, q4, _⟩ := szR_le q1 h
      rw [if_neg (by simpa using h), szFixS_eq c3 q3 (by omega), bind_some', if_neg h]
      by_cases h : szR (sumN nFix x.Fixed) (szR x.Ins.length (szR x.Sizes.length left)) < 0
      · simp [h]
      · obtain ⟨q5, q6, _⟩ := szR_le q3 h
        rw [if_neg (by simpa using h), szKernelS_eq c4 q5 (by omega), bind_some', if_neg h]
        by_cases h : szR (sumN nKer x.Kernels) (szR (sumN nFix x.Fixed) (szR x.Ins.length (szR x.Sizes.length left))) < 0
        · simp [h]
        · obtain ⟨q7, q8, _⟩ := szR_le q5 h
          rw [if_neg (by simpa using h), szIntS_eq c5 q7 (by omega), bind_some', if_neg h, ifneg (szR_neg q7)]
theorem inr_ {k : Nat} {n : Nat} (h : k < n) : (0 : Int) ≤ (k : Int) ∧ (k : Int) < (n : Int) := ⟨by omega, by omega⟩
theorem lt_ {k : Nat} {n : Nat} (h : k < n) : (decide ((k : Int) < (n : Int))) = true := by simpa using h
theorem nlt_ {n : Nat} : (decide ((n : Int) < (n : Int))) = false := by simp
theorem l7Has_eq (xs : List Int) (p : Int) (h : xs.length < big) : Zm xs p = some (decide (p ∈ xs)) := by
  unfold Zm
  rw [loop_all xs (fun s : Int => Zm_L1 xs p s) (fun i => i) (fun x => !(x == p)) (.inl true) (.inr ()) (fun k hk => by
    unfold Zm_L1
    rw [if_pos (lt_ hk), if_pos (inr_ hk), w64k (by omega)]
    cases (ix xs (k : Int) == p) <;> rfl) (by unfold Zm_L1; simp only [nlt_, Bool.false_eq_true, if_false])]
  rw [bind_some']
  by_cases hp : p ∈ xs
  · rw [if_neg (by simpa using hp)]; simp [hp]
  · rw [if_pos (by simp only [List.all_eq_true, Bool.not_eq_true', beq_eq_false_iff_ne]; exact fun x hx e => hp (e ▸ hx))]; simp [hp, Zm_J1]
theorem within_eq (xs : List Int) (n : Int) (h : xs.length < big) : Z05 xs n = some (xs.all fun x => decide (0 ≤ x) && decide (x < n)) := by
  unfold Z05
  rw [loop_all xs (fun s : Int => Z05_L1 xs n s) (fun i => i) (fun x => decide (0 ≤ x) && decide (x < n)) (.inl false) (.inr ()) (fun k hk => by
    unfold Z05_L1
    rw [if_pos (lt_ hk), if_pos (inr_ hk), w64k (by omega)]
    by_cases q1 : ix xs (k : Int) < 0 <;> by_cases q2 : ix xs (k : Int) < n
    · simp [q1, q2]
    · simp [q1, q2]
    · simp [q1, q2, Int.not_lt.1 q1, Int.not_le.2 q2]
    · simp [q1, q2, Int.not_lt.1 q2]) (by unfold Z05_L1; simp only [nlt_, Bool.false_eq_true, if_false])]
  rw [bind_some']
  cases hh : (xs.all fun x => decide (0 ≤ x) && decide (x < n)) <;> rfl
def num (x : Int) : Bool := decide (x ≥ 0) && decide (x < 2147483647)
theorem allNums_eq (xs : List Int) (h : xs.length < big) : Z0n xs = some (xs.all num) := by
  unfold Z0n
  rw [loop_all xs (fun s : Int => Z0n_L1 xs s) (fun i => i) num (.inl false) (.inr ()) (fun k hk => by
    unfold Z0n_L1
    rw [if_pos (lt_ hk), if_pos (inr_ hk), w64k (by omega)]
    show (some (num (ix xs (k : Int)))).bind _ = _
    rw [bind_some']
    cases num (ix xs (k : Int)) <;> rfl) (by unfold Z0n_L1; simp only [nlt_, Bool.false_eq_true, if_false])]
  rw [bind_some']
  cases hh : xs.all num <;> rfl
theorem rowOk_eq (xs : List Int) (h : xs.length < big) : Z0j xs = some (xs.all num && decide (0 < xs.length) && decide (xs.length ≤ 4096)) := by
  unfold Z0j
  rw [loop_all xs (fun s : Int => Z0j_L1 xs s) (fun i => i) num (.inl false) (.inr ()) (fun k hk => by
    unfold Z0j_L1 num
    rw [if_pos (lt_ hk), if_pos (inr_ hk), w64k (by omega)]
    by_cases q1 : ix xs (k : Int) < 0 <;> by_cases q2 : ix xs (k : Int) < 2147483647
    · simp [q1, q2, Int.not_le.2 q1]
    · simp [q1, q2, Int.not_le.2 q1]
    · simp [q1, q2, Int.not_lt.1 q1, Int.not_le.2 q2]
    · simp [q1, q2, Int.not_lt.1 q1, Int.not_lt.1 q2]) (by unfold Z0j_L1; simp only [nlt_, Bool.false_eq_true, if_false])]
  rw [bind_some']
  cases hh : xs.all num
  · rfl
  · have e1 : decide ((xs.length : Int) > 0) = decide (0 < xs.length) := decide_eq_decide.2 (by omega)
    have e2 : decide ((xs.length : Int) ≤ 4096) = decide (xs.length ≤ 4096) := decide_eq_decide.2 (by omega)
    simp only [if_true, Z0j_J1, e1, e2, Bool.true_and]
theorem all_range_eq (xs ys : List Int) (h : xs.length = ys.length) : ((List.range xs.length).all fun k => ix xs (k : Int) == ix ys (k : Int)) = decide (xs = ys) := by
  by_cases e : xs = ys
  · subst e; simp
  · simp only [e, decide_false]
    rw [List.all_eq_false]
    refine Classical.byContradiction fun hn => e ?_
    refine List.ext_getElem h fun k h1 h2 => ?_
    refine Classical.byContradiction fun hne => hn ⟨k, by simpa using h1, ?_⟩
    rw [ix_at h1, ix_at h2]
    simpa using hne
theorem same_eq (xs ys : List Int) (h : xs.length < big) : Z12 xs ys = some (decide (xs = ys)) := by
  unfold Z12
  by_cases hl : xs.length = ys.length
  · rw [if_neg (by simp [hl])]
    rw [loop_allI xs.length (fun s : Int => Z12_L1 xs ys s) (fun i => i) (fun k => ix xs (k : Int) == ix ys (k : Int)) (.inl false) (.inr ()) (fun k hk => by
      unfold Z12_L1
      rw [if_pos (lt_ hk), if_pos (inr_ hk), if_pos (inr_ (hl ▸ hk)), w64k (by omega)]
      by_cases hq : ix xs (k : Int) = ix ys (k : Int)
      · simp [hq]
      · simp [hq]) (by unfold Z12_L1; simp only [nlt_, Bool.false_eq_true, if_false])]
    rw [all_range_eq xs ys hl, bind_some']
    by_cases e : xs = ys <;> simp [e, Z12_J1]
  · rw [if_pos (by simp; omega)]
    have : xs ≠ ys := fun e => hl (by rw [e])
    simp [this]
theorem eqIntS_same (xs ys : List Int) : Zp xs ys = Z12 xs ys := rfl
theorem index_eq (xs : List Int) (v : Int) (h : xs.length < big) : ∃ r : Int, Z0m xs v = some r ∧ (decide (r ≥ 0)) = decide (v ∈ xs) := by
  unfold Z0m
  rw [loop_goI (S := Unit) xs (fun _ _ => True) (fun s : Int => Z0m_L1 xs v s) (fun _ i => i) (fun _ k x => if v == x then .inr (.inl (k : Int)) else .inl ()) (fun _ => .inr ()) ?_ (fun _ _ _ _ _ _ => trivial) ?_ () trivial]
  · rw [bind_some']
    have key : ∀ (ys : List Int) (j : Nat), ∃ r : Int, (match goI (S := Unit) (R := Int ⊕ Unit) (fun _ k x => if v == x then .inr (.inl (k : Int)) else .inl ()) (fun _ => .inr ()) ys j () with | .inl e => some e | .inr e => Z0m_J1) = some r ∧ (decide (r ≥ 0)) = decide (v ∈ ys) := by
      intro ys
      induction ys with
      | nil => intro j; exact ⟨-1, rfl, by simp⟩
      | cons y ys ih =>
        intro j
        unfold goI
        by_cases hv : v = y
        · refine ⟨(j : Int), by simp [hv], by simp [hv]⟩
        · simp only [beq_iff_eq, hv, if_false]
          obtain ⟨r, h1, h2⟩ := ih (j + 1)
          refine ⟨r, by simpa using h1, by rw [h2]; simp [hv]⟩
    exact key xs 0
  · intro s k _ hk
    unfold Z0m_L1
    rw [if_pos (lt_ hk), if_pos (inr_ hk), w64k (by omega)]
    cases (v == ix xs (k : Int)) <;> rfl
  · intro s _
    unfold Z0m_L1; simp only [nlt_, Bool.false_eq_true, if_false]
theorem contains_eq (xs : List Int) (v : Int) (h : xs.length < big) : Z1t xs v = some (decide (v ∈ xs)) := by
  unfold Z1t
  obtain ⟨r, h1, h2⟩ := index_eq xs v h
  rw [h1, bind_some', h2]
def prodL : List Int → Int → Option Int
  | [], n => some n
  | a :: t, n => if a < 1 ∨ a > 65536 ∨ n * a > 65536 then none else prodL t (n * a)
theorem mul_bd {n a : Int} (h1 : 1 ≤ n) (h2 : n ≤ 65536) (h3 : 1 ≤ a) (h4 : a ≤ 65536) : 1 ≤ n * a ∧ n * a ≤ 4294967296 := by
  have e1 : 1 * 1 ≤ n * a := Int.mul_le_mul h1 h3 (by omega) (by omega)
  have e2 : n * a ≤ 65536 * 65536 := Int.mul_le_mul h2 h4 (by omega) (by omega)
  omega
theorem prod_eq (xs : List Int) (h : xs.length < big) : Zs xs = some ((prodL xs 1).getD 0) := by
  unfold Zs
  rw [loop_goI (S := Int) xs (fun _ s => 1 ≤ s ∧ s ≤ 65536) (fun s : Int × Int => Zs_L1 xs s.1 s.2) (fun s i => (s, i)) (fun s _ a => if a < 1 ∨ a > 65536 ∨ s * a > 65536 then .inr (.inl 0) else .inl (s * a)) (fun s => .inr s) ?_ ?_ ?_ 1 ⟨by decide, by decide⟩]
  · rw [bind_some']
    have key : ∀ (ys : List Int) (n : Int) (j : Nat), (match goI (R := Int ⊕ Int) (fun s _ a => if a < 1 ∨ a > 65536 ∨ s * a > 65536 then .inr (.inl 0) else .inl (s * a)) (fun s => .inr s) ys j n with | .inl e => some e | .inr e => Zs_J1 e) = some ((prodL ys n).getD 0) := by
      intro ys
      induction ys with
      | nil => intro n j; rfl
      | cons a t ih =>
        intro n j
        unfold goI prodL
        by_cases hc : a < 1 ∨ a > 65536 ∨ n * a > 65536
        · simp only [if_pos hc]; rfl
        · simp only [if_neg hc]; exact ih _ _
    exact key xs 1 0
  · rintro s k ⟨i0, i1⟩ hk
    show Zs_L1 xs s (k : Int) = _
    unfold Zs_L1
    rw [if_pos (lt_ hk), if_pos (inr_ hk), w64k (by omega)]
    generalize ix xs (k : Int) = a
    by_cases c1 : a < 1
    · simp [c1]
    · by_cases c2 : a > 65536
      · simp [c1, c2]
      · have := mul_bd i0 i1 (by omega) (by omega : a ≤ 65536)
        rw [w64_id (n := s * a) (by omega) (by omega)]
        by_cases c3 : s * a > 65536
        · simp [c1, c2, c3]
        · simp [c1, c2, c3]
  · rintro s k s' ⟨i0, i1⟩ hk hs
    generalize ix xs (k : Int) = a at hs
    split at hs
    · cases hs
    · rename_i hc
      injection hs with hs
      subst hs
      have := mul_bd i0 i1 (by omega) (by omega : a ≤ 65536)
      omega
  · rintro s _
    show Zs_L1 xs s (xs.length : Int) = _
    unfold Zs_L1; simp only [nlt_, Bool.false_eq_true, if_false]
theorem work_eq (xs : List Int) (h : xs.length < big) : Z03 xs = some (match prodL xs 1 with | some n => (n, decide (xs.length ≤ 12)) | none => (0, false)) := by
  unfold Z03
  rw [loop_goI (S := Int) xs (fun _ s => 1 ≤ s ∧ s ≤ 65536) (fun s : Int × Int => Z03_L1 xs s.1 s.2) (fun s i => (s, i)) (fun s _ a => if a < 1 ∨ a > 65536 ∨ s * a > 65536 then .inr (.inl (0, false)) else .inl (s * a)) (fun s => .inr s) ?_ ?_ ?_ 1 ⟨by decide, by decide⟩]
  · rw [bind_some']
    have hd : decide ((xs.length : Int) ≤ 12) = decide (xs.length ≤ 12) := by simp; omega
    unfold Z03_J1
    rw [hd]
    generalize decide (xs.length ≤ 12) = q
    have key : ∀ (ys : List Int) (n : Int) (j : Nat), (match goI (R := (Int × Bool) ⊕ Int) (fun s _ a => if a < 1 ∨ a > 65536 ∨ s * a > 65536 then .inr (.inl (0, false)) else .inl (s * a)) (fun s => .inr s) ys j n with | .inl e => some e | .inr e => some (e, q)) = some (match prodL ys n with | some n => (n, q) | none => (0, false)) := by
      intro ys
      induction ys with
      | nil => intro n j; rfl
      | cons a t ih =>
        intro n j
        unfold goI prodL
        by_cases hc : a < 1 ∨ a > 65536 ∨ n * a > 65536
        · simp only [if_pos hc]
        · simp only [if_neg hc]; exact ih _ _
    exact key xs 1 0
  · rintro s k ⟨i0, i1⟩ hk
    show Z03_L1 xs s (k : Int) = _
    unfold Z03_L1
    rw [if_pos (lt_ hk), if_pos (inr_ hk), w64k (by omega)]
    generalize ix xs (k : Int) = a
    by_cases c1 : a < 1
    · simp [c1]
    · by_cases c2 : a > 65536
      · simp [c1, c2]
      · have := mul_bd i0 i1 (by omega) (by omega : a ≤ 65536)
        rw [w64_id (n := s * a) (by omega) (by omega)]
        by_cases c3 : s * a > 65536
        · simp [c1, c2, c3]
        · simp [c1, c2, c3]
  · rintro s k s' ⟨i0, i1⟩ hk hs
    generalize ix xs (k : Int) = a at hs
    split at hs
    · cases hs
    · rename_i hc
      injection hs with hs
      subst hs
      have := mul_bd i0 i1 (by omega) (by omega : a ≤ 65536)
      omega
  · rintro s _
    show Z03_L1 xs s (xs.length : Int) = _
    unfold Z03_L1; simp only [nlt_, Bool.false_eq_true, if_false]
theorem prodL_pos {xs : List Int} {n r : Int} (h1 : 1 ≤ n) (h2 : n ≤ 65536) (h : prodL xs n = some r) : 1 ≤ r ∧ r ≤ 65536 ∧ ∀ x ∈ xs, 1 ≤ x ∧ x ≤ 65536 := by
  induction xs generalizing n with
  | nil => injection h with h; subst h; exact ⟨h1, h2, fun _ h => by cases h⟩
  | cons a t ih =>
    unfold prodL at h
    split at h
    · cases h
    · rename_i hc
      have := mul_bd h1 h2 (by omega) (by omega : a ≤ 65536)
      obtain ⟨q1, q2, q3⟩ := ih (by omega) (by omega) h
      refine ⟨q1, q2, fun x hx => ?_⟩
      rcases List.mem_cons.1 hx with rfl | hx
      · omega
      · exact q3 x hx
theorem code_same (code : List Calc) (loads : Int) : Zb code loads = Z5 code loads := rfl
def okC (loads : Int) (k : Nat) (x : Calc) : Bool :=
  if x.Op == 1 then (decide (x.A ≥ 0) && decide (x.A < loads) && x.B == 0)
  else if x.Op == 2 then (decide (x.A ≥ 0) && decide (x.A < 2147483647) && x.B == 0)
  else if x.Op == 3 || x.Op == 4 || x.Op == 5 then (decide (x.A ≥ 0) && decide (x.A < (k : Int)) && decide (x.B ≥ 0) && decide (x.B < (k : Int)))
  else if x.Op == 6 || x.Op == 7 || x.Op == 8 || x.Op == 9 then (decide (x.A ≥ 0) && decide (x.A < (k : Int)) && x.B == 0) else false
def codeB (code : List Calc) (loads : Int) : Bool := decide (1 ≤ code.length) && decide (code.length ≤ 60) && (List.range code.length).all fun k => okC loads k (ix code (k : Int))
theorem code_eq (code : List Calc) (loads : Int) : Z5 code loads = some (codeB code loads) := by
  unfold Z5 codeB
  by_cases h1 : code.length < 1
  · rw [if_pos (by simp; omega)]; simp [Nat.not_le.2 h1]
  by_cases h2 : code.length > 60
  · rw [if_pos (by simp; omega)]; simp [Nat.not_le.2 h2]
  rw [if_neg (by simp; omega)]
  rw [loop_allI code.length (fun s : Int => Z5_L1 code loads s) (fun i => i) (fun k => okC loads k (ix code (k : Int))) (.inl false) (.inr ()) (fun k hk => by
    unfold Z5_L1 Z5_J4 Z5_J5 Z5_J6 okC
    rw [if_pos (lt_ hk), if_pos (inr_ hk), w64k (by unfold big; omega)]
    generalize ix code (k : Int) = x
    by_cases o1 : x.Op = 1
    · simp only [o1, beq_self_eq_true, if_true]
      cases (decide (x.A ≥ 0) && decide (x.A < loads) && x.B == 0) <;> rfl
    by_cases o2 : x.Op = 2
    · simp only [o2, beq_self_eq_true, if_true]
      cases (decide (x.A ≥ 0) && decide (x.A < 2147483647) && x.B == 0) <;> rfl
    by_cases o3 : x.Op = 3
    · simp only [o3, beq_self_eq_true, if_true, Bool.true_or]
      cases (decide (x.A ≥ 0) && decide (x.A < (k : Int)) && decide (x.B ≥ 0) && decide (x.B < (k : Int))) <;> rfl
    by_cases o4 : x.Op = 4
    · simp only [o4, beq_self_eq_true, if_true, Bool.or_true, Bool.true_or]
      cases (decide (x.A ≥ 0) && decide (x.A < (k : Int)) && decide (x.B ≥ 0) && decide (x.B < (k : Int))) <;> rfl
    by_cases o5 : x.Op = 5
    · simp only [o5, beq_self_eq_true, if_true, Bool.or_true]
      cases (decide (x.A ≥ 0) && decide (x.A < (k : Int)) && decide (x.B ≥ 0) && decide (x.B < (k : Int))) <;> rfl
    have e1 : (x.Op == 1) = false := by simpa using o1
    have e2 : (x.Op == 2) = false := by simpa using o2
    have e3 : (x.Op == 3) = false := by simpa using o3
    have e4 : (x.Op == 4) = false := by simpa using o4
    have e5 : (x.Op == 5) = false := by simpa using o5
    simp only [e1, e2, e3, e4, e5, Bool.false_eq_true, if_false, Bool.or_self]
    cases e6 : x.Op == 6
    · cases e7 : x.Op == 7
      · cases e8 : x.Op == 8
        · cases e9 : x.Op == 9
          · rfl
          · simp only [Bool.or_true, if_true, Bool.false_eq_true, if_false]
            cases (decide (x.A ≥ 0) && decide (x.A < (k : Int)) && x.B == 0) <;> rfl
        · simp only [Bool.or_true, Bool.true_or, if_true, Bool.false_eq_true, if_false]
          cases (decide (x.A ≥ 0) && decide (x.A < (k : Int)) && x.B == 0) <;> rfl
      · simp only [Bool.or_true, Bool.true_or, if_true, Bool.false_eq_true, if_false]
        cases (decide (x.A ≥ 0) && decide (x.A < (k : Int)) && x.B == 0) <;> rfl
    · simp only [Bool.or_true, Bool.true_or, if_true, Bool.false_eq_true, if_false]
      cases (decide (x.A ≥ 0) && decide (x.A < (k : Int)) && x.B == 0) <;> rfl) (by unfold Z5_L1; simp only [nlt_, Bool.false_eq_true, if_false])]
  rw [bind_some']
  have q1 : decide (1 ≤ code.length) = true := by simpa using by omega
  have q2 : decide (code.length ≤ 60) = true := by simpa using by omega
  rw [q1, q2]
  cases hh : (List.range code.length).all fun k => okC loads k (ix code (k : Int)) <;> rfl
theorem mul_bd2 {t y : Int} (h1 : -4096 ≤ t) (h2 : t ≤ 4096) (h3 : 0 ≤ y) (h4 : y ≤ 65535) : -268435456 ≤ t * y ∧ t * y ≤ 268435456 ∧ (t < 0 → t * y ≤ 0) ∧ (0 ≤ t → 0 ≤ t * y) := by
  rcases Int.lt_or_le t 0 with h | h
  · have e1 : 0 ≤ (-t) * y := Int.mul_nonneg (by omega) h3
    have e2 : (-t) * y ≤ 4096 * 65535 := Int.mul_le_mul (by omega) h4 h3 (by omega)
    have e3 : (-t) * y = -(t * y) := Int.neg_mul t y
    omega
  · have e1 : 0 ≤ t * y := Int.mul_nonneg h h3
    have e2 : t * y ≤ 4096 * 65535 := Int.mul_le_mul h2 h4 h3 (by omega)
    omega
def stp (a : Access) (s : Int × Int) (k : Nat) (x : Int) : (Int × Int) ⊕ (Bool ⊕ (Int × Int)) :=
  if x = 1 ∧ ix a.Steps (k : Int) = 0 then .inl s else if x = 1 ∨ ix a.Steps (k : Int) < -4096 ∨ ix a.Steps (k : Int) > 4096 then .inr (.inl false)
  else if ix a.Steps (k : Int) < 0 then .inl (s.1 + ix a.Steps (k : Int) * (x - 1), s.2) else .inl (s.1, s.2 + ix a.Steps (k : Int) * (x - 1))
def accG (a : Access) (loops : List Int) : Bool ⊕ (Int × Int) := goI (stp a) (fun s => .inr s) loops 0 (a.Offset, a.Offset)
def fitB (a : Access) (loops : List Int) (size : Int) : Bool :=
  decide (a.Steps.length = loops.length) && decide (0 ≤ a.Offset) && decide (a.Offset < size) && (match accG a loops with | .inl _ => false | .inr s => decide (s.1 ≥ 0) && decide (s.2 < size))
def LoopsOk (loops : List Int) : Prop := loops.length ≤ 12 ∧ ∀ x ∈ loops, 1 ≤ x ∧ x ≤ 65536
def accI (k : Nat) (s : Int × Int) : Prop := -(k * 268435456) ≤ s.1 ∧ s.1 ≤ 4096 ∧ 0 ≤ s.2 ∧ s.2 ≤ 4096 + k * 268435456
theorem stp_inv {a : Access} {s s' : Int × Int} {k : Nat} {x : Int} (hI : accI k s) (hx : 1 ≤ x ∧ x ≤ 65536) (h : stp a s k x = .inl s') : accI (k + 1) s' := by
  obtain ⟨i1, i2, i3, i4⟩ := hI
  obtain ⟨s1, s2⟩ := s
  unfold stp at h
  generalize ix a.Steps (k : Int) = t at h
  by_cases c1 : x = 1 ∧ t = 0
  · rw [if_pos c1] at h
    injection h with h; subst h
    exact ⟨by omega, i2, i3, by omega⟩
  rw [if_neg c1] at h
  by_cases c2 : x = 1 ∨ t < -4096 ∨ t > 4096
  · rw [if_pos c2] at h; cases h
  rw [if_neg c2] at h
  have hm := mul_bd2 (t := t) (y := x - 1) (by omega) (by omega) (by omega) (by omega)
  generalize t * (x - 1) = v at h hm
  simp only at i1 i2 i3 i4
  by_cases c3 : t < 0
  · rw [if_pos c3] at h
    injection h with h; subst h
    have := hm.2.2.1 c3
    exact ⟨by simp only; omega, by simp only; omega, i3, by simp only; omega⟩
  · rw [if_neg c3] at h
    injection h with h; subst h
    have := hm.2.2.2 (by omega)
    exact ⟨by simp only; omega, i2, by simp only; omega, by simp only; omega⟩
theorem Z2a (a : Access) (loops sizes : List Int) (hl : LoopsOk loops) (hs : ∀ x ∈ sizes, x ≤ 4096) : Zi a loops sizes = some (decide (0 ≤ a.Buffer) && decide (a.Buffer < (sizes.length : Int)) && fitB a loops (ix sizes a.Buffer)) := by
  unfold Zi fitB
  by_cases b1 : a.Buffer < 0
  · rw [if_pos (by simp [b1]), if_pos (by simp [b1])]; simp [Int.not_le.2 b1]
  by_cases b2 : a.Buffer ≥ (sizes.length : Int)
  · rw [if_pos (by simp [b2]), if_pos (by simp [b2])]; simp [Int.not_lt.2 b2]
  have hr : 0 ≤ a.Buffer ∧ a.Buffer < (sizes.length : Int) := ⟨by omega, by omega⟩
  rw [if_pos (fun _ => hr)]
  have hsz : ix sizes a.Buffer ≤ 4096 := by
    obtain ⟨j, hj⟩ := Int.eq_ofNat_of_zero_le hr.1
    rw [hj]; exact hs _ (ix_mem (by omega))
  generalize hz : ix sizes a.Buffer = z at *
  rcases (Classical.em (a.Steps.length = loops.length)).symm with b3 | b3
  · rw [if_pos (by simp; omega)]; simp [b3]
  by_cases b4 : a.Offset < 0
  · rw [if_pos (by simp [b4])]; simp [Int.not_le.2 b4]
  by_cases b5 : a.Offset ≥ z
  · rw [if_pos (by simp [b5])]; simp [Int.not_lt.2 b5]
  rw [if_neg (by simp; omega)]
  rw [loop_goI (S := Int × Int) loops accI (fun s : Int × Int × Int => Zi_L1 a loops s.1 s.2.1 s.2.2) (fun s i => (s.1, s.2, i)) (stp a) (fun s => .inr s) ?_ (fun s k s' hI hk h => stp_inv hI (hl.2 _ (ix_mem hk)) h) ?_ (a.Offset, a.Offset) (by unfold accI; simp only; omega)]
  · rw [bind_some']
    have q1 : decide (0 ≤ a.Buffer) = true := by simpa using hr.1
    have q2 : decide (a.Buffer < (sizes.length : Int)) = true := by simpa using hr.2
    have q3 : decide (0 ≤ a.Offset) = true := by simpa using by omega
    have q4 : decide (a.Offset < z) = true := by simpa using by omega
    have q5 : decide (a.Steps.length = loops.length) = true := by simpa using b3
    rw [q1, q2, q3, q4, q5]
    have hb : ∀ q : Bool ⊕ (Int × Int), q = accG a loops → (∀ b, q = .inl b → b = false) → (match q with | .inl e => some e | .inr e => Zi_J3 a sizes e.1 e.2) = some (true && true && (true && true && true && match q with | .inl _ => false | .inr s => decide (s.1 ≥ 0) && decide (s.2 < z))) := by
      rintro (b | s) _ hq
      · rw [hq b rfl]; rfl
      · simp only [Zi_J3, hz]
        rw [if_pos (fun _ => hr)]; rfl
    have hG : accG a loops = goI (stp a) (fun s => .inr s) loops 0 (a.Offset, a.Offset) := rfl
    rw [hG]
    refine hb _ rfl ?_
    refine goI_ind (fun (q : Bool ⊕ (Int × Int)) => ∀ b, q = .inl b → b = false) (fun _ _ => True) loops 0 _ trivial (fun s j x _ _ => ⟨fun _ _ => trivial, fun r hr b e => ?_⟩) (fun s _ b e => by cases e)
    subst e
    unfold stp at hr
    split at hr
    · cases hr
    · split at hr
      · injection hr with hr; injection hr with hr; exact hr.symm
      · split at hr <;> cases hr
  · intro s k hI hk
    show Zi_L1 a loops s.1 s.2 (k : Int) = _
    have hx := hl.2 _ (ix_mem hk)
    have hlen := hl.1
    unfold Zi_L1 Zi_J2 stp
    rw [if_pos (lt_ hk), if_pos (inr_ (b3 ▸ hk)), if_pos (inr_ hk), w64k (by unfold big; omega)]
    unfold accI at hI
    generalize ix a.Steps (k : Int) = t at *
    generalize ix loops (k : Int) = x at *
    by_cases c1 : x = 1
    · by_cases c2 : t = 0
      · simp [c1, c2]
      · simp [c1, c2]
    by_cases c3 : t < -4096
    · simp [c1, c3]
    by_cases c4 : t > 4096
    · simp [c1, c4]
    have hm := mul_bd2 (t := t) (y := x - 1) (by omega) (by omega) (by omega) (by omega)
    rw [w64_id (n := x - 1) (by omega) (by omega), w64_id (n := t * (x - 1)) (by omega) (by omega)]
    have hk12 : (k : Int) < 12 := by omega
    by_cases c5 : t < 0
    · rw [w64_id (n := s.1 + t * (x - 1)) (by omega) (by omega)]
      simp [c1, c3, c4, c5]
    · rw [w64_id (n := s.2 + t * (x - 1)) (by omega) (by omega)]
      simp [c1, c3, c4, c5]
  · intro s _
    show Zi_L1 a loops s.1 s.2 (loops.length : Int) = _
    unfold Zi_L1; simp only [nlt_, Bool.false_eq_true, if_false]
theorem Z2h (a : Access) (loops : List Int) (size : Int) (hl : LoopsOk loops) (hs : size ≤ 4096) : Z02 a loops size = some (fitB a loops size) := by
  unfold Z02 fitB
  rcases (Classical.em (a.Steps.length = loops.length)).symm with b3 | b3
  · rw [if_pos (by simp; omega)]; simp [b3]
  by_cases b4 : a.Offset < 0
  · rw [if_pos (by simp [b4])]; simp [Int.not_le.2 b4]
  by_cases b5 : a.Offset ≥ size
  · rw [if_pos (by simp [b5])]; simp [Int.not_lt.2 b5]
  rw [if_neg (by simp; omega)]
  rw [loop_goI (S := Int × Int) loops accI (fun s : Int × Int × Int => Z02_L1 a loops s.1 s.2.1 s.2.2) (fun s i => (s.1, s.2, i)) (stp a) (fun s => .inr s) ?_ (fun s k s' hI hk h => stp_inv hI (hl.2 _ (ix_mem hk)) h) ?_ (a.Offset, a.Offset) (by unfold accI; simp only; omega)]
  · rw [bind_some']
    have q3 : decide (0 ≤ a.Offset) = true := by simpa using by omega
    have q4 : decide (a.Offset < size) = true := by simpa using by omega
    have q5 : decide (a.Steps.length = loops.length) = true := by simpa using b3
    rw [q3, q4, q5]
    have hb : ∀ q : Bool ⊕ (Int × Int), q = accG a loops → (∀ b, q = .inl b → b = false) → (match q with | .inl e => some e | .inr e => Z02_J1 size e.1 e.2) = some (true && true && true && match q with | .inl _ => false | .inr s => decide (s.1 ≥ 0) && decide (s.2 < size)) := by
      rintro (b | s) _ hq
      · rw [hq b rfl]; rfl
      · rfl
    have hG : accG a loops = goI (stp a) (fun s => .inr s) loops 0 (a.Offset, a.Offset) := rfl
    rw [hG]
    refine hb _ rfl ?_
    refine goI_ind (fun (q : Bool ⊕ (Int × Int)) => ∀ b, q = .inl b → b = false) (fun _ _ => True) loops 0 _ trivial (fun s j x _ _ => ⟨fun _ _ => trivial, fun r hr b e => ?_⟩) (fun s _ b e => by cases e)
    subst e
    unfold stp at hr
    split at hr
    · cases hr
    · split at hr
      · injection hr with hr; injection hr with hr; exact hr.symm
      · split at hr <;> cases hr
  · intro s k hI hk
    show Z02_L1 a loops s.1 s.2 (k : Int) = _
    have hx := hl.2 _ (ix_mem hk)
    have hlen := hl.1
    unfold Z02_L1 stp
    rw [b3, if_pos (lt_ hk), if_pos (inr_ hk), if_pos (fun _ => inr_ hk), w64k (by unfold big; omega)]
    unfold accI at hI
    generalize ix a.Steps (k : Int) = t at *
    generalize ix loops (k : Int) = x at *
    by_cases c3 : t < -4096
    · have : t ≠ 0 := by omega
      simp [c3, this]
    by_cases c4 : t > 4096
    · have : t ≠ 0 := by omega
      simp [c4, this]
    have hm := mul_bd2 (t := t) (y := x - 1) (by omega) (by omega) (by omega) (by omega)
    rw [w64_id (n := x - 1) (by omega) (by omega), w64_id (n := t * (x - 1)) (by omega) (by omega)]
    have hk12 : (k : Int) < 12 := by omega
    by_cases c1 : x = 1
    · by_cases c2 : t = 0
      · subst c1; subst c2
        rw [if_neg (by simp), if_pos (inr_ hk)]
        simp
        rw [w64_id (n := s.1) (by omega) (by omega), w64_id (n := s.2) (by omega) (by omega)]
        exact ⟨rfl, rfl⟩
      · simp [c1, c2]
    rw [if_neg (by simp [c1, c3, c4]), if_pos (inr_ hk)]
    generalize t * (x - 1) = v at *
    have g1 : w64 (s.1 + (if v < 0 then v else 0)) = s.1 + (if v < 0 then v else 0) := w64_id (by split <;> omega) (by split <;> omega)
    have g2 : w64 (s.2 + (if v > 0 then v else 0)) = s.2 + (if v > 0 then v else 0) := w64_id (by split <;> omega) (by split <;> omega)
    rw [g1, g2]
    by_cases c5 : t < 0
    · have h1 := hm.2.2.1 c5
      have e1 : (if v < 0 then v else 0) = v := by split <;> omega
      have e2 : (if v > 0 then v else 0) = 0 := by split <;> omega
      rw [e1, e2, Int.add_zero]
      simp [c1, c3, c4, c5]
    · have h1 := hm.2.2.2 (by omega)
      have e1 : (if v < 0 then v else 0) = 0 := by split <;> omega
      have e2 : (if v > 0 then v else 0) = v := by split <;> omega
      rw [e1, e2, Int.add_zero]
      simp [c1, c3, c4, c5]
  · intro s _
    show Z02_L1 a loops s.1 s.2 (loops.length : Int) = _
    unfold Z02_L1; rw [b3]; simp only [nlt_, Bool.false_eq_true, if_false]
theorem gc_t {α : Type} [Inhabited α] (x : Option α) : gcall true x = x := rfl
theorem gc_f {α : Type} [Inhabited α] (x : Option α) : gcall false x = some default := rfl
def accB (sizes loops : List Int) (a : Access) : Bool := decide (0 ≤ a.Buffer) && decide (a.Buffer < (sizes.length : Int)) && fitB a loops (ix sizes a.Buffer)
def ldB (sizes : List Int) (k : Kernel) (a : Access) : Bool := accB sizes k.Loops a && !(a.Buffer == k.Store.Buffer)
def kerB (sizes : List Int) (k : Kernel) : Bool :=
  decide (k.Loops.length ≤ 12) && decide (k.Loads.length ≤ 30) && (prodL k.Loops 1).isSome && codeB k.Code k.Loads.length && accB sizes k.Loops k.Store && k.Loads.all (ldB sizes k)
theorem loopsOk {xs : List Int} {r : Int} (h1 : xs.length ≤ 12) (h : prodL xs 1 = some r) : LoopsOk xs := ⟨h1, (prodL_pos (by decide) (by decide) h).2.2⟩
theorem Z2j (k : Kernel) (sizes : List Int) (hs : ∀ x ∈ sizes, x ≤ 4096) : Z0l k sizes = some (kerB sizes k) := by
  unfold Z0l kerB
  by_cases h1 : k.Loops.length > 12
  · have e : decide ((k.Loops.length : Int) > 12) = true := decide_eq_true (by omega)
    simp only [e, Bool.true_or, Bool.not_true, gc_f, bind_some', if_true]
    simp [Nat.not_le.2 h1]
  have e1 : decide ((k.Loops.length : Int) > 12) = false := by simpa using by omega
  by_cases h2 : k.Loads.length > 30
  · have e : decide ((k.Loads.length : Int) > 30) = true := decide_eq_true (by omega)
    simp only [e, e1, Bool.true_or, Bool.or_true, Bool.not_true, gc_f, bind_some', if_true]
    simp [Nat.not_le.2 h2]
  have e2 : decide ((k.Loads.length : Int) > 30) = false := by simpa using by omega
  have d1 : decide (k.Loops.length ≤ 12) = true := by simpa using by omega
  have d2 : decide (k.Loads.length ≤ 30) = true := by simpa using by omega
  rw [prod_eq _ (by unfold big; omega), e1, e2, d1, d2]
  simp only [Bool.or_self, Bool.not_false, gc_t, bind_some', Bool.false_or, Bool.true_and]
  cases hp : prodL k.Loops 1 with
  | none => simp [gc_f, bind_some']
  | some r =>
    have hr := (prodL_pos (by decide) (by decide) hp).1
    have hl := loopsOk (by omega) hp
    have e3 : (r == 0) = false := by simpa using by omega
    simp only [Option.getD_some, e3, Bool.not_false, gc_t, code_eq, bind_some', Bool.false_or, Option.isSome_some, Bool.true_and]
    cases hc : codeB k.Code k.Loads.length
    · simp [gc_f, bind_some']
    · simp only [Bool.not_true, Bool.not_false, gc_t, Z2a _ _ _ hl hs, bind_some', Bool.false_or, Bool.true_and]
      show (if (!(accB sizes k.Loops k.Store)) = true then _ else _) = some (accB sizes k.Loops k.Store && _)
      cases ha : accB sizes k.Loops k.Store
      · rfl
      · simp only [Bool.not_true, Bool.false_eq_true, if_false, Bool.true_and]
        rw [loop_all k.Loads (fun s : Int => Z0l_L1 k sizes s) (fun i => i) (ldB sizes k) (.inl false) (.inr ()) (fun j hj => by
          unfold Z0l_L1
          rw [if_pos (lt_ hj), if_pos (inr_ hj), w64k (by unfold big; omega), Z2a _ _ _ hl hs, bind_some']
          show (if (!(accB sizes k.Loops (ix k.Loads (j : Int))) || _) = true then _ else _) = some (if (accB sizes k.Loops (ix k.Loads (j : Int)) && _) then _ else _)
          cases accB sizes k.Loops (ix k.Loads (j : Int)) <;> cases ((ix k.Loads (j : Int)).Buffer == k.Store.Buffer) <;> rfl) (by unfold Z0l_L1; simp only [nlt_, Bool.false_eq_true, if_false])]
        rw [bind_some']
        cases k.Loads.all (ldB sizes k) <;> rfl
theorem ix_mem' {α : Type} [Inhabited α] {xs : List α} {i : Int} (h0 : 0 ≤ i) (h1 : i < (xs.length : Int)) : ix xs i ∈ xs := by
  obtain ⟨j, rfl⟩ := Int.eq_ofNat_of_zero_le h0
  exact ix_mem (by omega)
theorem Z2g (l : Nest) (k : Kernel) (g : List Bool) (hg : g.length = l.Sizes.length) (hs : ∀ x ∈ l.Sizes, x ≤ 4096) (hb : k.Loops.length < big) : ∃ n, Zk l k g = some (n, kerB l.Sizes k && !(ix g k.Store.Buffer)) ∧ (kerB l.Sizes k = true → n = (prodL k.Loops 1).getD 0) := by
  unfold Zk kerB
  rw [work_eq _ hb, bind_some']
  cases hp : prodL k.Loops 1 with
  | none => exact ⟨0, by simp [gc_f, bind_some'], by simp⟩
  | some r =>
  simp only
  by_cases h1 : k.Loops.length > 12
  · have d1 : decide (k.Loops.length ≤ 12) = false := by simpa using h1
    exact ⟨0, by simp [gc_f, bind_some', d1], by simp [d1]⟩
  have d1 : decide (k.Loops.length ≤ 12) = true := by simpa using by omega
  by_cases h2 : k.Loads.length > 30
  · have e : decide ((k.Loads.length : Int) > 30) = true := decide_eq_true (by omega)
    have d2 : decide (k.Loads.length ≤ 30) = false := by simpa using h2
    exact ⟨0, by simp [gc_f, bind_some', d2, e, d1], by simp [d2]⟩
  have e2 : decide ((k.Loads.length : Int) > 30) = false := by simpa using by omega
  have d2 : decide (k.Loads.length ≤ 30) = true := by simpa using by omega
  have hl := loopsOk (by omega) hp
  rw [d1, d2, e2]
  simp only [Bool.not_true, Bool.or_self, Bool.not_false, gc_t, code_same, code_eq, bind_some', Bool.false_or, Option.isSome_some, Bool.true_and]
  cases hc : codeB k.Code k.Loads.length
  · exact ⟨0, by simp, by simp⟩
  simp only [Bool.not_true, Bool.false_eq_true, if_false, Bool.true_and]
  unfold Z1q
  rw [if_pos (by omega), bind_some', if_pos (by simp; omega)]
  have hal : (k.Loads ++ [k.Store]).length < big := by unfold big; simp; omega
  rw [loop_all (k.Loads ++ [k.Store]) (fun s : Int => Zk_L1 l k k.Loads s) (fun i => i) (accB l.Sizes k.Loops) (.inl (0, false)) (.inr ()) (fun j hj => by
    unfold Zk_L1
    rw [if_pos (lt_ hj), if_pos (inr_ hj), w64k (by omega)]
    generalize ix (k.Loads ++ [k.Store]) (j : Int) = a
    unfold accB
    by_cases b1 : a.Buffer < 0
    · rw [if_pos (by simp [b1])]; simp [b1, gc_f, bind_some', Int.not_le.2 b1]
    by_cases b2 : a.Buffer ≥ (l.Sizes.length : Int)
    · rw [if_pos (by simp [b2])]; simp [b2, gc_f, bind_some', Int.not_lt.2 b2]
    have q1 : decide (a.Buffer < 0) = false := by simpa using by omega
    have q2 : decide (a.Buffer ≥ (l.Sizes.length : Int)) = false := by simpa using by omega
    have q3 : decide (0 ≤ a.Buffer) = true := by simpa using by omega
    have q4 : decide (a.Buffer < (l.Sizes.length : Int)) = true := by simpa using by omega
    rw [if_pos (fun _ => ⟨by omega, by omega⟩), q1, q2, q3, q4]
    simp only [Bool.or_self, Bool.not_false, gc_t, Bool.false_or, Bool.true_and]
    rw [Z2h _ _ _ hl (hs _ (ix_mem' (by omega) (by omega))), bind_some']
    cases fitB a k.Loops (ix l.Sizes a.Buffer) <;> rfl) (by unfold Zk_L1; simp only [nlt_, Bool.false_eq_true, if_false])]
  rw [bind_some', List.all_append]
  simp only [List.all_cons, List.all_nil, Bool.and_true]
  have hall : k.Loads.all (ldB l.Sizes k) = (k.Loads.all (accB l.Sizes k.Loops) && k.Loads.all fun a => !(a.Buffer == k.Store.Buffer)) := by
    generalize k.Loads = L
    induction L with
    | nil => rfl
    | cons a t ih =>
      simp only [List.all_cons, ih, ldB]
      cases accB l.Sizes k.Loops a <;> cases (a.Buffer == k.Store.Buffer) <;> simp
  rw [hall]
  cases hA : k.Loads.all (accB l.Sizes k.Loops)
  · exact ⟨0, by simp, by simp⟩
  cases hS : accB l.Sizes k.Loops k.Store
  · exact ⟨0, by simp, by simp⟩
  simp only [Bool.and_self, if_true, Bool.true_and]
  unfold Zk_J1
  rw [loop_all k.Loads (fun s : Int => Zk_L2 k s) (fun i => i) (fun a => !(a.Buffer == k.Store.Buffer)) (.inl (0, false)) (.inr ()) (fun j hj => by
    unfold Zk_L2
    rw [if_pos (lt_ hj), if_pos (inr_ hj), w64k (by unfold big; omega)]
    cases ((ix k.Loads (j : Int)).Buffer == k.Store.Buffer) <;> rfl) (by unfold Zk_L2; simp only [nlt_, Bool.false_eq_true, if_false])]
  rw [bind_some']
  cases hB : k.Loads.all fun a => !(a.Buffer == k.Store.Buffer)
  · exact ⟨0, by simp, by simp⟩
  · have hr : 0 ≤ k.Store.Buffer ∧ k.Store.Buffer < (g.length : Int) := by
      unfold accB at hS
      simp only [Bool.and_eq_true, decide_eq_true_eq] at hS
      omega
    refine ⟨r, ?_, fun _ => rfl⟩
    simp only [if_true, Zk_J2, Bool.true_and]
    rw [if_pos hr]
def givI : List Int → List Int → Option (List Int)
  | [], g => some g
  | b :: bs, g => if b ∈ g then none else givI bs (g ++ [b])
def givI' (n : Int) : List Int → List Int → Option (List Int)
  | [], g => some g
  | b :: bs, g => if (0 ≤ b ∧ b < n) ∧ ¬ b ∈ g then givI' n bs (g ++ [b]) else none
theorem givI_eq (n : Int) (bs g : List Int) : givI' n bs g = if (bs.all fun x => decide (0 ≤ x) && decide (x < n)) = true then givI bs g else none := by
  induction bs generalizing g with
  | nil => rfl
  | cons b bs ih =>
    unfold givI' givI
    rw [List.all_cons, ih]
    by_cases h1 : 0 ≤ b ∧ b < n
    · by_cases h2 : b ∈ g
      · simp [h1, h2]
      · simp [h1, h2]
    · rw [if_neg (fun h => h1 h.1), if_neg]
      simp only [Bool.and_eq_true, decide_eq_true_eq]
      exact fun h => h1 h.1
def fixOk (sizes : List Int) (f : Fix) : Bool := decide (0 ≤ f.Buffer) && decide (f.Buffer < (sizes.length : Int)) && decide ((f.Data.length : Int) = ix sizes f.Buffer) && f.Data.all num
def givF (sizes : List Int) : List Fix → List Int → Option (List Int)
  | [], g => some g
  | f :: fs, g => if fixOk sizes f = true ∧ ¬ f.Buffer ∈ g then givF sizes fs (g ++ [f.Buffer]) else none
def Rg (g : List Bool) (n : Nat) (gl : List Int) : Prop := g.length = n ∧ ∀ j : Nat, j < n → ix g (j : Int) = decide ((j : Int) ∈ gl)
theorem Rg.set {g : List Bool} {n : Nat} {gl : List Int} (h : Rg g n gl) {b : Int} (h0 : 0 ≤ b) (h1 : b < (n : Int)) : Rg (g.set b.toNat true) n (gl ++ [b]) := by
  obtain ⟨hl, hx⟩ := h
  refine ⟨by simpa using hl, fun j hj => ?_⟩
  obtain ⟨c, rfl⟩ := Int.eq_ofNat_of_zero_le h0
  have hj' : j < (g.set (c : Int).toNat true).length := by simpa [hl] using hj
  rw [ix_at hj', List.getElem_set]
  by_cases e : (c : Int).toNat = j
  · rw [if_pos e]; have : c = j := by omega
    subst this; simp
  · rw [if_neg e]
    have h2 := hx j hj
    rw [ix_at (by omega)] at h2
    rw [h2]
    have : ¬ (j : Int) = (c : Int) := by omega
    simp [this]
theorem take_eq {g : List Bool} {n : Nat} {gl : List Int} (h : Rg g n gl) (b : Int) : Z15 b g = some (if (0 ≤ b ∧ b < (n : Int)) ∧ ¬ b ∈ gl then (true, g.set b.toNat true) else (false, g)) := by
  obtain ⟨hl, hx⟩ := h
  unfold Z15
  rw [hl]
  by_cases h1 : b < 0
  · rw [if_pos (by simp [h1]), if_pos (by simp [h1]), if_neg (by omega)]
  by_cases h2 : b ≥ (n : Int)
  · rw [if_pos (by simp [h2]), if_pos (by simp [h2]), if_neg (by omega)]
  rw [if_pos (fun _ => ⟨by omega, by omega⟩)]
  obtain ⟨c, rfl⟩ := Int.eq_ofNat_of_zero_le (Int.not_lt.1 h1)
  rw [hx c (by omega)]
  by_cases h3 : (c : Int) ∈ gl
  · rw [if_pos (by simp [h3]), if_neg (fun h => h.2 h3)]
  · rw [if_neg (by simp [h3]; omega), if_pos ⟨by omega, by omega⟩, if_pos ⟨⟨by omega, by omega⟩, h3⟩]
def postG (n : Nat) (o : Option (List Int)) (res : (List Bool × Bool) ⊕ List Bool) : Prop := match o with
  | none => res = .inl ([], false)
  | some gl => ∃ g, res = .inr g ∧ Rg g n gl
theorem givL1 (l : Nest) (g : List Bool) (gl : List Int) (h : Rg g l.Sizes.length gl) (hb : l.Ins.length < big) :
    ∃ res, loopM (fun s : (List Bool) × Int => Z9_L1 l s.1 s.2) (g, 0) = some res ∧ postG l.Sizes.length (givI' l.Sizes.length l.Ins gl) res := by
  refine ⟨_, loop_goI (S := List Bool × List Int) l.Ins (fun _ s => Rg s.1 l.Sizes.length s.2) (fun s : (List Bool) × Int => Z9_L1 l s.1 s.2) (fun s i => (s.1, i))
    (fun s _ b => if (0 ≤ b ∧ b < (l.Sizes.length : Int)) ∧ ¬ b ∈ s.2 then .inl (s.1.set b.toNat true, s.2 ++ [b]) else .inr (.inl ([], false))) (fun s => .inr s.1) ?_ ?_ ?_ (g, gl) h, ?_⟩
  · intro s k hI hk
    show Z9_L1 l s.1 (k : Int) = _
    unfold Z9_L1
    rw [if_pos (lt_ hk), if_pos (inr_ hk), w64k (by omega), take_eq hI, bind_some']
    by_cases hc : (0 ≤ ix l.Ins (k : Int) ∧ ix l.Ins (k : Int) < (l.Sizes.length : Int)) ∧ ¬ ix l.Ins (k : Int) ∈ s.2
    · simp only [if_pos hc]; rfl
    · simp only [if_neg hc]; rfl
  · intro s k s' hI hk hs
    by_cases hc : (0 ≤ ix l.Ins (k : Int) ∧ ix l.Ins (k : Int) < (l.Sizes.length : Int)) ∧ ¬ ix l.Ins (k : Int) ∈ s.2
    · rw [if_pos hc] at hs; injection hs with hs; subst hs; exact hI.set hc.1.1 hc.1.2
    · rw [if_neg hc] at hs; cases hs
  · intro s _
    show Z9_L1 l s.1 (l.Ins.length : Int) = _
    unfold Z9_L1; simp only [nlt_, Bool.false_eq_true, if_false]
  · generalize 0 = j
    generalize l.Ins = bs
    induction bs generalizing g gl j with
    | nil => exact ⟨g, rfl, h⟩
    | cons b bs ih =>
      unfold goI givI'
      by_cases hc : (0 ≤ b ∧ b < (l.Sizes.length : Int)) ∧ ¬ b ∈ gl
      · simp only [if_pos hc]; exact ih _ _ (h.set hc.1.1 hc.1.2) _
      · simp only [if_neg hc]; rfl
theorem givL2 (l : Nest) (g : List Bool) (gl : List Int) (h : Rg g l.Sizes.length gl) (hb : l.Fixed.length < big) (hd : ∀ f ∈ l.Fixed, f.Data.length < big) :
    ∃ res, loopM (fun s : (List Bool) × Int => Z9_L2 l s.1 s.2) (g, 0) = some res ∧ postG l.Sizes.length (givF l.Sizes l.Fixed gl) res := by
  refine ⟨_, loop_goI (S := List Bool × List Int) l.Fixed (fun _ s => Rg s.1 l.Sizes.length s.2) (fun s : (List Bool) × Int => Z9_L2 l s.1 s.2) (fun s i => (s.1, i))
    (fun s _ f => if fixOk l.Sizes f = true ∧ ¬ f.Buffer ∈ s.2 then .inl (s.1.set f.Buffer.toNat true, s.2 ++ [f.Buffer]) else .inr (.inl ([], false))) (fun s => .inr s.1) ?_ ?_ ?_ (g, gl) h, ?_⟩
  · intro s k hI hk
    show Z9_L2 l s.1 (k : Int) = _
    have hdk := hd _ (ix_mem hk)
    unfold Z9_L2 fixOk
    rw [if_pos (lt_ hk), if_pos (inr_ hk), w64k (by omega), take_eq hI, bind_some']
    generalize ix l.Fixed (k : Int) = f at *
    by_cases hc : (0 ≤ f.Buffer ∧ f.Buffer < (l.Sizes.length : Int)) ∧ ¬ f.Buffer ∈ s.2
    · have q1 : decide (0 ≤ f.Buffer) = true := decide_eq_true hc.1.1
      have q2 : decide (f.Buffer < (l.Sizes.length : Int)) = true := decide_eq_true hc.1.2
      simp only [if_pos hc, q1, q2, Bool.true_and, Bool.not_true, Bool.false_or]
      rw [if_pos (fun _ => hc.1)]
      by_cases hq : (f.Data.length : Int) = ix l.Sizes f.Buffer
      · have e : ((f.Data.length : Int) != ix l.Sizes f.Buffer) = false := by simp [hq]
        rw [e, Bool.not_false, gc_t, allNums_eq _ hdk, bind_some']
        simp only [hq, decide_true, Bool.true_and, Bool.false_or]
        cases f.Data.all num <;> simp [hc.2]
      · have e : ((f.Data.length : Int) != ix l.Sizes f.Buffer) = true := by simp [hq]
        rw [e, Bool.not_true, gc_f, bind_some']
        simp [hq]
    · simp only [if_neg hc]
      rw [if_pos (by simp)]
      have hn : ¬ ((decide (0 ≤ f.Buffer) && decide (f.Buffer < (l.Sizes.length : Int)) && decide ((f.Data.length : Int) = ix l.Sizes f.Buffer) && f.Data.all num) = true ∧ ¬ f.Buffer ∈ s.2) := by
        rintro ⟨h1, h2⟩
        simp only [Bool.and_eq_true, decide_eq_true_eq] at h1
        exact hc ⟨h1.1.1, h2⟩
      rw [if_neg hn]
      simp [gc_f, bind_some']
  · intro s k s' hI hk hs
    by_cases hc : fixOk l.Sizes (ix l.Fixed (k : Int)) = true ∧ ¬ (ix l.Fixed (k : Int)).Buffer ∈ s.2
    · rw [if_pos hc] at hs; injection hs with hs; subst hs
      have h1 := hc.1
      unfold fixOk at h1
      simp only [Bool.and_eq_true, decide_eq_true_eq] at h1
      exact hI.set h1.1.1.1 h1.1.1.2
    · rw [if_neg hc] at hs; cases hs
  · intro s _
    show Z9_L2 l s.1 (l.Fixed.length : Int) = _
    unfold Z9_L2; simp only [nlt_, Bool.false_eq_true, if_false]
  · clear hd hb
    generalize 0 = j
    generalize l.Fixed = fs
    induction fs generalizing g gl j with
    | nil => exact ⟨g, rfl, h⟩
    | cons f fs ih =>
      unfold goI givF
      by_cases hc : fixOk l.Sizes f = true ∧ ¬ f.Buffer ∈ gl
      · simp only [if_pos hc]
        have h1 := hc.1
        unfold fixOk at h1
        simp only [Bool.and_eq_true, decide_eq_true_eq] at h1
        exact ih _ _ (h.set h1.1.1.1 h1.1.1.2) _
      · simp only [if_neg hc]; rfl
theorem given_eq (l : Nest) (h1 : l.Sizes.length ≤ 200) (h2 : l.Ins.length < big) (h3 : l.Fixed.length < big) (hd : ∀ f ∈ l.Fixed, f.Data.length < big) :
    ∃ r, Z9 l = some r ∧ match (givI' l.Sizes.length l.Ins []).bind (givF l.Sizes l.Fixed) with | none => r.2 = false | some gl => r.2 = true ∧ Rg r.1 l.Sizes.length gl := by
  unfold Z9
  rw [if_pos (by omega)]
  have h0 : Rg (List.replicate (l.Sizes.length : Int).toNat false) l.Sizes.length [] := by
    refine ⟨by simp, fun j hj => ?_⟩
    rw [ix_at (by simpa using hj)]; simp
  obtain ⟨res, e1, p1⟩ := givL1 l _ _ h0 h2
  rw [e1, bind_some']
  cases hG : givI' l.Sizes.length l.Ins [] with
  | none =>
    rw [hG] at p1
    obtain rfl : res = .inl ([], false) := p1
    exact ⟨_, rfl, rfl⟩
  | some gl =>
    rw [hG] at p1
    obtain ⟨g, rfl, hR⟩ := p1
    obtain ⟨res2, e2, p2⟩ := givL2 l g gl hR h3 hd
    simp only [Z9_J1, e2, bind_some', Option.bind_some]
    cases hF : givF l.Sizes l.Fixed gl with
    | none =>
      rw [hF] at p2
      obtain rfl : res2 = .inl ([], false) := p2
      exact ⟨_, rfl, rfl⟩
    | some gl2 =>
      rw [hF] at p2
      obtain ⟨g2, rfl, hR2⟩ := p2
      exact ⟨_, rfl, rfl, hR2⟩
theorem Z2c (l : Nest) (gl : List Int) (h1 : l.Ins.length ≤ 40) (hg : gl.length ≤ 1) : loopM (fun s : (List Int) × Int => Z3_L2 l s.1 s.2) (gl, 0) = some (match givI l.Ins gl with | none => .inl false | some g => .inr g) := by
  rw [loop_goI (S := List Int) l.Ins (fun k s => s.length ≤ 1 + k) (fun s : (List Int) × Int => Z3_L2 l s.1 s.2) (fun s i => (s, i)) (fun s _ b => if b ∈ s then .inr (.inl false) else .inl (s ++ [b])) (fun s => .inr s) ?_ ?_ ?_ gl (by omega)]
  · congr 1
    clear h1 hg
    generalize 0 = j
    generalize l.Ins = bs
    induction bs generalizing gl j with
    | nil => rfl
    | cons b bs ih =>
      unfold goI givI
      by_cases hc : b ∈ gl
      · simp only [if_pos hc]
      · simp only [if_neg hc]; exact ih _ _
  · intro s k hI hk
    show Z3_L2 l s (k : Int) = _
    unfold Z3_L2
    rw [if_pos (lt_ hk), if_pos (inr_ hk), w64k (by unfold big; omega), l7Has_eq _ _ (by unfold big; omega), bind_some']
    by_cases hc : ix l.Ins (k : Int) ∈ s
    · simp [hc]
    · rw [if_neg (by simpa using hc), if_pos (by simp; omega), if_neg hc]
  · intro s k s' hI hk hs
    split at hs
    · cases hs
    · injection hs with hs; subst hs; simp; omega
  · intro s _
    show Z3_L2 l s (l.Ins.length : Int) = _
    unfold Z3_L2; simp only [nlt_, Bool.false_eq_true, if_false]
theorem Z2d (l : Nest) (gl : List Int) (hg : gl.length ≤ 41) (hz : ∀ x ∈ l.Sizes, x ≤ 4096) (hb : l.Fixed.length ≤ 1048576) (hd : ∀ f ∈ l.Fixed, f.Data.length < big) :
    loopM (fun s : (List Int) × Int => Z3_L3 l s.1 s.2) (gl, 0) = some (match givF l.Sizes l.Fixed gl with | none => .inl false | some g => .inr g) := by
  rw [loop_goI (S := List Int) l.Fixed (fun k s => s.length ≤ 41 + k) (fun s : (List Int) × Int => Z3_L3 l s.1 s.2) (fun s i => (s, i)) (fun s _ f => if fixOk l.Sizes f = true ∧ ¬ f.Buffer ∈ s then .inl (s ++ [f.Buffer]) else .inr (.inl false)) (fun s => .inr s) ?_ ?_ ?_ gl (by omega)]
  · congr 1
    clear hb hg hd
    generalize 0 = j
    generalize l.Fixed = fs
    induction fs generalizing gl j with
    | nil => rfl
    | cons f fs ih =>
      unfold goI givF
      by_cases hc : fixOk l.Sizes f = true ∧ ¬ f.Buffer ∈ gl
      · simp only [if_pos hc]; exact ih _ _
      · simp only [if_neg hc]
  · intro s k hI hk
    show Z3_L3 l s (k : Int) = _
    have hdk := hd _ (ix_mem hk)
    unfold Z3_L3 fixOk
    rw [if_pos (lt_ hk), if_pos (inr_ hk), w64k (by unfold big; omega)]
    generalize ix l.Fixed (k : Int) = f at *
    by_cases b1 : f.Buffer < 0
    · have e1 : decide (f.Buffer < 0) = true := decide_eq_true b1
      have e2 : decide (0 ≤ f.Buffer) = false := decide_eq_false (by omega)
      simp [e1, e2, gc_f, bind_some']
    by_cases b2 : f.Buffer ≥ (l.Sizes.length : Int)
    · have e1 : decide (f.Buffer ≥ (l.Sizes.length : Int)) = true := decide_eq_true b2
      have e2 : decide (f.Buffer < (l.Sizes.length : Int)) = false := decide_eq_false (by omega)
      simp [e1, e2, gc_f, bind_some']
    have q1 : decide (f.Buffer < 0) = false := decide_eq_false b1
    have q2 : decide (f.Buffer ≥ (l.Sizes.length : Int)) = false := decide_eq_false b2
    have q3 : decide (0 ≤ f.Buffer) = true := decide_eq_true (by omega)
    have q4 : decide (f.Buffer < (l.Sizes.length : Int)) = true := decide_eq_true (by omega)
    rw [q1, q2, q3, q4]
    simp only [Bool.or_self, Bool.not_false, gc_t, l7Has_eq _ _ (show s.length < big by unfold big; omega), bind_some', Bool.false_or, Bool.true_and]
    by_cases hm : f.Buffer ∈ s
    · simp [hm, gc_f, bind_some']
    have hsz : ix l.Sizes f.Buffer ≤ 4096 := hz _ (ix_mem' (by omega) (by omega))
    simp only [hm, decide_false, Bool.false_or]
    rw [if_pos (fun _ => ⟨by omega, by omega⟩)]
    by_cases hq : (f.Data.length : Int) = ix l.Sizes f.Buffer
    · have e : ((f.Data.length : Int) != ix l.Sizes f.Buffer) = false := by simp [hq]
      have e' : decide ((f.Data.length : Int) = ix l.Sizes f.Buffer) = true := decide_eq_true hq
      rw [e, e']
      simp only [Bool.not_false, Bool.true_and, Bool.false_or]
      by_cases h0 : 0 < f.Data.length
      · have e3 : decide ((f.Data.length : Int) > 0) = true := decide_eq_true (by omega)
        have e4 : decide (0 < f.Data.length) = true := decide_eq_true h0
        have e5 : decide (f.Data.length ≤ 4096) = true := decide_eq_true (by omega)
        rw [e3, gc_t, rowOk_eq _ hdk, bind_some', e4, e5]
        simp only [Bool.and_true, Bool.true_and]
        cases f.Data.all num
        · simp
        · simp only [Bool.not_true, Bool.false_eq_true, if_false, not_false_eq_true, and_self, if_true]
          rw [if_pos (by simp; omega)]
      · have e3 : decide ((f.Data.length : Int) > 0) = false := decide_eq_false (by omega)
        have hnil : f.Data = [] := List.eq_nil_of_length_eq_zero (by omega)
        rw [e3, gc_f, bind_some', hnil]
        simp only [Bool.false_and, Bool.false_eq_true, if_false, List.all_nil, not_false_eq_true, and_self, if_true]
        rw [if_pos (by simp; omega)]
    · have e : ((f.Data.length : Int) != ix l.Sizes f.Buffer) = true := by simp [hq]
      have e' : decide ((f.Data.length : Int) = ix l.Sizes f.Buffer) = false := decide_eq_false hq
      rw [e, e']
      simp [gc_f, bind_some']
  · intro s k s' hI hk hs
    split at hs
    · injection hs with hs; subst hs; simp; omega
    · cases hs
  · intro s _
    show Z3_L3 l s (l.Fixed.length : Int) = _
    unfold Z3_L3; simp only [nlt_, Bool.false_eq_true, if_false]
def sumK (sizes gl : List Int) : List Kernel → Int → Option Int
  | [], s => some s
  | k :: ks, s => if kerB sizes k = true ∧ ¬ k.Store.Buffer ∈ gl then sumK sizes gl ks (s + (prodL k.Loops 1).getD 0) else none
def inN (n : Int) (xs : List Int) : Bool := xs.all fun x => decide (0 ≤ x) && decide (x < n)
def szB' (x : Int) : Bool := decide (0 ≤ x) && decide (x ≤ 4096)
def nestB (l : Nest) : Bool :=
  decide (l.Sizes.length ≤ 200) && decide (l.Ins.length ≤ 40) && decide (l.Outs.length ≤ 40) && decide (l.Kernels.length ≤ 400) && inN l.Sizes.length l.Ins && inN l.Sizes.length l.Outs && l.Sizes.all szB' &&
  (match (givI l.Ins []).bind (givF l.Sizes l.Fixed) with
    | none => false
    | some gl => match sumK l.Sizes gl l.Kernels 0 with
      | none => false
      | some s => decide (s ≤ 1000000))
theorem ker_prod {sizes : List Int} {k : Kernel} (h : kerB sizes k = true) : 1 ≤ (prodL k.Loops 1).getD 0 ∧ (prodL k.Loops 1).getD 0 ≤ 65536 := by
  unfold kerB at h
  cases hp : prodL k.Loops 1 with
  | none => rw [hp] at h; simp at h
  | some r =>
    have := prodL_pos (by decide) (by decide) hp
    exact ⟨this.1, this.2.1⟩
theorem Z2i (l : Nest) (gl : List Int) (hg : gl.length < big) (hk : l.Kernels.length ≤ 400) (hz : ∀ x ∈ l.Sizes, x ≤ 4096) (hb : ∀ k ∈ l.Kernels, k.Loops.length < big) :
    loopM (fun s : Int × Int => Z3_L4 l gl s.1 s.2) (0, 0) = some (match sumK l.Sizes gl l.Kernels 0 with | none => .inl false | some s => .inr s) := by
  rw [loop_goI (S := Int) l.Kernels (fun k s => 0 ≤ s ∧ s ≤ k * 65536) (fun s : Int × Int => Z3_L4 l gl s.1 s.2) (fun s i => (s, i))
    (fun s _ k => if kerB l.Sizes k = true ∧ ¬ k.Store.Buffer ∈ gl then .inl (s + (prodL k.Loops 1).getD 0) else .inr (.inl false)) (fun s => .inr s) ?_ ?_ ?_ 0 (by omega)]
  · congr 1
    have key : ∀ (ks : List Kernel) (s : Int) (j : Nat), goI (R := Bool ⊕ Int) (fun s _ k => if kerB l.Sizes k = true ∧ ¬ k.Store.Buffer ∈ gl then .inl (s + (prodL k.Loops 1).getD 0) else .inr (.inl false)) (fun s => .inr s) ks j s = (match sumK l.Sizes gl ks s with | none => .inl false | some s => .inr s) := by
      intro ks
      induction ks with
      | nil => intro s j; rfl
      | cons k ks ih =>
        intro s j
        unfold goI sumK
        by_cases hc : kerB l.Sizes k = true ∧ ¬ k.Store.Buffer ∈ gl
        · simp only [if_pos hc]; exact ih _ _
        · simp only [if_neg hc]
    exact key _ _ _
  · rintro s k ⟨i0, i1⟩ hkk
    show Z3_L4 l gl s (k : Int) = _
    have hbk := hb _ (ix_mem hkk)
    unfold Z3_L4
    rw [if_pos (lt_ hkk), if_pos (inr_ hkk), w64k (by unfold big; omega), Z2j _ _ hz, bind_some']
    generalize ix l.Kernels (k : Int) = K at *
    cases hK : kerB l.Sizes K
    · simp [gc_f, bind_some']
    · have hp := ker_prod hK
      rw [prod_eq _ hbk]
      simp only [Bool.not_true, Bool.not_false, gc_t, l7Has_eq _ _ hg, bind_some', Bool.false_or]
      by_cases hm : K.Store.Buffer ∈ gl
      · simp [hm]
      · rw [w64_id (by omega) (by omega)]
        simp [hm]
  · rintro s k s' ⟨i0, i1⟩ hkk hs
    split at hs
    · rename_i hc
      have hp := ker_prod hc.1
      injection hs with hs; subst hs; omega
    · cases hs
  · intro s _
    show Z3_L4 l gl s (l.Kernels.length : Int) = _
    unfold Z3_L4; simp only [nlt_, Bool.false_eq_true, if_false]
theorem Z2k (l : Nest) (r : List Bool × Bool) (gl : List Int) (hg : Rg r.1 l.Sizes.length gl) (hk : l.Kernels.length ≤ 400) (hz : ∀ x ∈ l.Sizes, x ≤ 4096) (hb : ∀ k ∈ l.Kernels, k.Loops.length < big) :
    loopM (fun s : Int × Int => Z4_L3 l r s.1 s.2) (0, 0) = some (match sumK l.Sizes gl l.Kernels 0 with | none => .inl false | some s => .inr s) := by
  rw [loop_goI (S := Int) l.Kernels (fun k s => 0 ≤ s ∧ s ≤ k * 65536) (fun s : Int × Int => Z4_L3 l r s.1 s.2) (fun s i => (s, i))
    (fun s _ k => if kerB l.Sizes k = true ∧ ¬ k.Store.Buffer ∈ gl then .inl (s + (prodL k.Loops 1).getD 0) else .inr (.inl false)) (fun s => .inr s) ?_ ?_ ?_ 0 (by omega)]
  · congr 1
    have key : ∀ (ks : List Kernel) (s : Int) (j : Nat), goI (R := Bool ⊕ Int) (fun s _ k => if kerB l.Sizes k = true ∧ ¬ k.Store.Buffer ∈ gl then .inl (s + (prodL k.Loops 1).getD 0) else .inr (.inl false)) (fun s => .inr s) ks j s = (match sumK l.Sizes gl ks s with | none => .inl false | some s => .inr s) := by
      intro ks
      induction ks with
      | nil => intro s j; rfl
      | cons k ks ih =>
        intro s j
        unfold goI sumK
        by_cases hc : kerB l.Sizes k = true ∧ ¬ k.Store.Buffer ∈ gl
        · simp only [if_pos hc]; exact ih _ _
        · simp only [if_neg hc]
    exact key _ _ _
  · rintro s k ⟨i0, i1⟩ hkk
    show Z4_L3 l r s (k : Int) = _
    have hbk := hb _ (ix_mem hkk)
    unfold Z4_L3
    obtain ⟨n, e1, e2⟩ := Z2g l (ix l.Kernels (k : Int)) r.1 hg.1 hz hbk
    rw [if_pos (lt_ hkk), if_pos (inr_ hkk), w64k (by unfold big; omega), e1, bind_some']
    generalize ix l.Kernels (k : Int) = K at *
    cases hK : kerB l.Sizes K
    · simp
    · have hp := ker_prod hK
      have hbuf : ix r.1 K.Store.Buffer = decide (K.Store.Buffer ∈ gl) := by
        have h1 := hK
        unfold kerB accB at h1
        simp only [Bool.and_eq_true, decide_eq_true_eq] at h1
        obtain ⟨j, hj⟩ := Int.eq_ofNat_of_zero_le h1.1.2.1.1
        rw [hj]
        exact hg.2 j (by omega)
      rw [hbuf]
      by_cases hm : K.Store.Buffer ∈ gl
      · simp [hm]
      · rw [e2 hK, w64_id (by omega) (by omega)]
        simp [hm]
  · rintro s k s' ⟨i0, i1⟩ hkk hs
    split at hs
    · rename_i hc
      have hp := ker_prod hc.1
      injection hs with hs; subst hs; omega
    · cases hs
  · intro s _
    show Z4_L3 l r s (l.Kernels.length : Int) = _
    unfold Z4_L3; simp only [nlt_, Bool.false_eq_true, if_false]
structure Sm (l : Nest) : Prop where
  sizes : l.Sizes.length ≤ 1048576
  ins : l.Ins.length ≤ 1048576
  outs : l.Outs.length ≤ 1048576
  fixed : l.Fixed.length ≤ 1048576
  kers : l.Kernels.length ≤ 1048576
  data : ∀ f ∈ l.Fixed, f.Data.length ≤ 1048576
  loops : ∀ k ∈ l.Kernels, k.Loops.length ≤ 1048576
  loads : ∀ k ∈ l.Kernels, k.Loads.length ≤ 1048576
  steps : ∀ k ∈ l.Kernels, ∀ a ∈ k.Loads, a.Steps.length ≤ 1048576
  store : ∀ k ∈ l.Kernels, k.Store.Steps.length ≤ 1048576
  code : ∀ k ∈ l.Kernels, k.Code.length ≤ 1048576
theorem givI_len {bs g r : List Int} (h : givI bs g = some r) : r.length = g.length + bs.length := by
  induction bs generalizing g with
  | nil => injection h with h; subst h; rfl
  | cons b bs ih =>
    unfold givI at h
    split at h
    · cases h
    · have := ih h; simp at this ⊢; omega
theorem givF_len {sizes : List Int} {fs : List Fix} {g r : List Int} (h : givF sizes fs g = some r) : r.length = g.length + fs.length := by
  induction fs generalizing g with
  | nil => injection h with h; subst h; rfl
  | cons b bs ih =>
    unfold givF at h
    split at h
    · have := ih h; simp at this ⊢; omega
    · cases h
theorem szL (l : Nest) (f : Int → Option (Int ⊕ (Bool ⊕ Unit))) (hb : l.Sizes.length < big) (hf : ∀ i, f i = if (decide (i < (l.Sizes.length : Int))) = true then (if (0 ≤ i ∧ i < (l.Sizes.length : Int)) then if ((decide ((ix l.Sizes i) < (0 : Int))) || (decide ((ix l.Sizes i) > (4096 : Int)))) = true then (some (.inr (.inl false))) else (some (.inl (w64 (i + (1 : Int))))) else none) else (some (.inr (.inr ())))) :
    loopM f 0 = some (if l.Sizes.all szB' then .inr () else .inl false) := by
  refine loop_all l.Sizes f (fun i => i) szB' (.inl false) (.inr ()) (fun k hk => ?_) ?_
  · rw [hf, if_pos (lt_ hk), if_pos (inr_ hk), w64k (by omega)]
    unfold szB'
    by_cases q1 : ix l.Sizes (k : Int) < 0 <;> by_cases q2 : ix l.Sizes (k : Int) ≤ 4096
    · simp [q1, Int.not_le.2 q1]
    · simp [q1, Int.not_le.2 q1]
    · simp [q1, q2, Int.not_lt.1 q1, Int.not_lt.2 q2]
    · simp [q1, q2, Int.not_le.1 q2]
  · rw [hf]; simp only [nlt_, Bool.false_eq_true, if_false]
theorem szs {l : Nest} (h : l.Sizes.all szB' = true) : ∀ x ∈ l.Sizes, x ≤ 4096 := by
  intro x hx
  have := List.all_eq_true.1 h x hx
  unfold szB' at this
  simp only [Bool.and_eq_true, decide_eq_true_eq] at this
  exact this.2
theorem Z29 (l : Nest) (hs : Sm l) : Z3 l = some (nestB l) := by
  unfold Z3 nestB
  by_cases h1 : l.Sizes.length > 200
  · have e : decide ((l.Sizes.length : Int) > 200) = true := decide_eq_true (by omega)
    have d : decide (l.Sizes.length ≤ 200) = false := decide_eq_false (by omega)
    simp [e, d, gc_f, bind_some']
  by_cases h2 : l.Ins.length > 40
  · have e : decide ((l.Ins.length : Int) > 40) = true := decide_eq_true (by omega)
    have d : decide (l.Ins.length ≤ 40) = false := decide_eq_false (by omega)
    simp [e, d, gc_f, bind_some']
  by_cases h3 : l.Outs.length > 40
  · have e : decide ((l.Outs.length : Int) > 40) = true := decide_eq_true (by omega)
    have d : decide (l.Outs.length ≤ 40) = false := decide_eq_false (by omega)
    simp [e, d, gc_f, bind_some']
  by_cases h4 : l.Kernels.length > 400
  · have e : decide ((l.Kernels.length : Int) > 400) = true := decide_eq_true (by omega)
    have d : decide (l.Kernels.length ≤ 400) = false := decide_eq_false (by omega)
    simp [e, d, gc_f, bind_some']
  have e1 : decide ((l.Sizes.length : Int) > 200) = false := decide_eq_false (by omega)
  have e2 : decide ((l.Ins.length : Int) > 40) = false := decide_eq_false (by omega)
  have e3 : decide ((l.Outs.length : Int) > 40) = false := decide_eq_false (by omega)
  have e4 : decide ((l.Kernels.length : Int) > 400) = false := decide_eq_false (by omega)
  have d1 : decide (l.Sizes.length ≤ 200) = true := decide_eq_true (by omega)
  have d2 : decide (l.Ins.length ≤ 40) = true := decide_eq_true (by omega)
  have d3 : decide (l.Outs.length ≤ 40) = true := decide_eq_true (by omega)
  have d4 : decide (l.Kernels.length ≤ 400) = true := decide_eq_true (by omega)
  rw [e1, e2, e3, e4, d1, d2, d3, d4]
  simp only [Bool.or_self, Bool.not_false, gc_t, within_eq _ _ (show l.Ins.length < big by unfold big; omega), within_eq _ _ (show l.Outs.length < big by unfold big; omega), bind_some', Bool.false_or, Bool.true_and]
  show (gcall (!(!(inN l.Sizes.length l.Ins))) (some (inN l.Sizes.length l.Outs))).bind _ = _
  cases hi : inN l.Sizes.length l.Ins
  · have hi' : (l.Ins.all fun x => decide (0 ≤ x) && decide (x < (l.Sizes.length : Int))) = false := hi
    simp [gc_f, bind_some', hi']
  have hi' : (l.Ins.all fun x => decide (0 ≤ x) && decide (x < (l.Sizes.length : Int))) = true := hi
  simp only [Bool.not_true, Bool.not_false, gc_t, bind_some', hi', Bool.false_or, Bool.true_and]
  cases ho : inN l.Sizes.length l.Outs
  · rfl
  simp only [Bool.not_true, Bool.false_eq_true, if_false, Bool.true_and]
  rw [szL l (fun s => Z3_L1 l s) (by unfold big; omega) (fun _ => rfl), bind_some']
  cases hz : l.Sizes.all szB'
  · rfl
  have hz' := szs hz
  simp only [if_true, Z3_J1, Bool.true_and]
  rw [Z2c l [] (by omega) (by simp), bind_some']
  cases hI : givI l.Ins [] with
  | none => rfl
  | some g =>
    have hgl := givI_len hI
    have hdat : ∀ f ∈ l.Fixed, f.Data.length < big := fun f hf => by have := hs.data f hf; unfold big; omega
    simp only [Z3_J2, Option.bind_some]
    rw [Z2d l g (by simp at hgl; omega) hz' hs.fixed hdat, bind_some']
    cases hF : givF l.Sizes l.Fixed g with
    | none => rfl
    | some g2 =>
      have hgl2 := givF_len hF
      have := hs.fixed
      simp only [Z3_J3]
      rw [Z2i l g2 (by simp at hgl; unfold big; omega) (by omega) hz' (fun k hk => by have := hs.loops k hk; unfold big; omega), bind_some']
      cases sumK l.Sizes g2 l.Kernels 0 <;> rfl
theorem Z2b (l : Nest) (hs : Sm l) : Z4 l = some (nestB l) := by
  unfold Z4 nestB
  by_cases h1 : l.Sizes.length > 200
  · have e : decide ((l.Sizes.length : Int) > 200) = true := decide_eq_true (by omega)
    have d : decide (l.Sizes.length ≤ 200) = false := decide_eq_false (by omega)
    simp [e, d]
  by_cases h2 : l.Ins.length > 40
  · have e : decide ((l.Ins.length : Int) > 40) = true := decide_eq_true (by omega)
    have d : decide (l.Ins.length ≤ 40) = false := decide_eq_false (by omega)
    simp [e, d]
  by_cases h3 : l.Outs.length > 40
  · have e : decide ((l.Outs.length : Int) > 40) = true := decide_eq_true (by omega)
    have d : decide (l.Outs.length ≤ 40) = false := decide_eq_false (by omega)
    simp [e, d]
  by_cases h4 : l.Kernels.length > 400
  · have e : decide ((l.Kernels.length : Int) > 400) = true := decide_eq_true (by omega)
    have d : decide (l.Kernels.length ≤ 400) = false := decide_eq_false (by omega)
    simp [e, d]
  have e1 : decide ((l.Sizes.length : Int) > 200) = false := decide_eq_false (by omega)
  have e2 : decide ((l.Ins.length : Int) > 40) = false := decide_eq_false (by omega)
  have e3 : decide ((l.Outs.length : Int) > 40) = false := decide_eq_false (by omega)
  have e4 : decide ((l.Kernels.length : Int) > 400) = false := decide_eq_false (by omega)
  have d1 : decide (l.Sizes.length ≤ 200) = true := decide_eq_true (by omega)
  have d2 : decide (l.Ins.length ≤ 40) = true := decide_eq_true (by omega)
  have d3 : decide (l.Outs.length ≤ 40) = true := decide_eq_true (by omega)
  have d4 : decide (l.Kernels.length ≤ 400) = true := decide_eq_true (by omega)
  rw [e1, e2, e3, e4, d1, d2, d3, d4]
  simp only [Bool.or_self, Bool.false_eq_true, if_false, Bool.true_and]
  rw [szL l (fun s => Z4_L1 l s) (by unfold big; omega) (fun _ => rfl), bind_some']
  cases hz : l.Sizes.all szB'
  · simp
  have hz' := szs hz
  simp only [if_true, Z4_J1, Bool.and_true]
  rw [loop_all l.Outs (fun s : Int => Z4_L2 l s) (fun i => i) (fun x => decide (0 ≤ x) && decide (x < (l.Sizes.length : Int))) (.inl false) (.inr ()) (fun k hk => by
    unfold Z4_L2
    rw [if_pos (lt_ hk), if_pos (inr_ hk), w64k (by unfold big; omega)]
    by_cases q1 : ix l.Outs (k : Int) < 0 <;> by_cases q2 : ix l.Outs (k : Int) < (l.Sizes.length : Int)
    · simp [q1, q2, Int.not_le.2 q1]
    · simp [q1, q2, Int.not_le.2 q1]
    · simp [q1, q2, Int.not_lt.1 q1, Int.not_le.2 q2]
    · simp [q1, q2, Int.not_lt.1 q2]) (by unfold Z4_L2; simp only [nlt_, Bool.false_eq_true, if_false])]
  rw [bind_some']
  show (match (if inN l.Sizes.length l.Outs = true then _ else _ : Bool ⊕ Unit) with | .inl e => some e | .inr e => Z4_J2 l) = _
  cases ho : inN l.Sizes.length l.Outs
  · simp
  simp only [if_true, Z4_J2, Bool.and_true]
  obtain ⟨r, er, pr⟩ := given_eq l (by omega) (by unfold big; omega) (by have := hs.fixed; unfold big; omega) (fun f hf => by have := hs.data f hf; unfold big; omega)
  rw [er, bind_some']
  rw [givI_eq] at pr
  change (match (if inN l.Sizes.length l.Ins = true then givI l.Ins [] else none).bind (givF l.Sizes l.Fixed) with | none => r.2 = false | some gl => r.2 = true ∧ Rg r.1 l.Sizes.length gl) at pr
  cases hi : inN l.Sizes.length l.Ins
  · rw [hi] at pr
    have pr : r.2 = false := pr
    simp [pr]
  rw [hi] at pr
  simp only [if_true] at pr
  simp only [Bool.true_and]
  cases hG : (givI l.Ins []).bind (givF l.Sizes l.Fixed) with
  | none =>
    rw [hG] at pr
    have pr : r.2 = false := pr
    simp [pr]
  | some gl =>
    rw [hG] at pr
    obtain ⟨p1, p2⟩ := pr
    rw [p1]
    simp only [Bool.not_true, Bool.false_eq_true, if_false]
    rw [Z2k l r gl p2 (by omega) hz' (fun k hk => by have := hs.loops k hk; unfold big; omega), bind_some']
    cases sumK l.Sizes gl l.Kernels 0 <;> rfl
theorem set_loop {α T : Type} [Inhabited α] (xs : List α) (z : α) (f : T → Option (T ⊕ List α)) (mk : List α → Int → T)
    (hf : ∀ (ys : List α) (k : Nat), ys.length = xs.length → k < xs.length → f (mk ys (k : Int)) = some (.inl (mk (ys.set k (ix xs (k : Int))) ((k + 1 : Nat) : Int))))
    (hl : ∀ ys : List α, ys.length = xs.length → f (mk ys (xs.length : Int)) = some (.inr ys)) : loopM f (mk (List.replicate (xs.length : Int).toNat z) 0) = some xs := by
  rw [Int.toNat_natCast]
  rw [loop_goI (S := List α) xs (fun _ s => s.length = xs.length) f mk (fun s k x => .inl (s.set k x)) (fun s => s) (fun s k hI hk => hf s k hI hk) (fun s k s' hI hk h => by injection h with h; subst h; simpa using hI) hl _ (by simp)]
  congr 1
  have key : ∀ (m k : Nat) (ys : List α), k + m = xs.length → ys.length = xs.length → (∀ j, j < k → ys[j]? = xs[j]?) → goI (R := List α) (fun s k x => .inl (s.set k x)) (fun s => s) (xs.drop k) k ys = xs := by
    intro m
    induction m with
    | zero =>
      intro k ys hk hl he
      have hk : k = xs.length := by omega
      subst hk
      rw [List.drop_length]
      show ys = xs
      refine List.ext_getElem? fun j => ?_
      by_cases hj : j < xs.length
      · exact he j hj
      · rw [List.getElem?_eq_none (by omega), List.getElem?_eq_none (by omega)]
    | succ m ih =>
      intro k ys hk hl he
      have hlt : k < xs.length := by omega
      rw [List.drop_eq_getElem_cons hlt]
      unfold goI
      refine ih (k + 1) _ (by omega) (by simpa using hl) (fun j hj => ?_)
      rw [List.getElem?_set]
      by_cases e : k = j
      · subst e; rw [if_pos rfl, if_pos (by omega)]; exact (List.getElem?_eq_getElem hlt).symm
      · rw [if_neg e]; exact he j (by omega)
  simpa using key xs.length 0 (List.replicate xs.length z) (by omega) (by simp) (fun j hj => by omega)
theorem app_loop {α T : Type} [Inhabited α] (xs : List α) (f : T → Option (T ⊕ List α)) (mk : List α → Int → T) (N : Nat) (hN : xs.length ≤ N)
    (hf : ∀ (ys : List α) (k : Nat), ys.length ≤ k → k < xs.length → f (mk ys (k : Int)) = some (.inl (mk (ys ++ [ix xs (k : Int)]) ((k + 1 : Nat) : Int))))
    (hl : ∀ ys : List α, f (mk ys (xs.length : Int)) = some (.inr ys)) : loopM f (mk [] 0) = some xs := by
  rw [loop_goI (S := List α) xs (fun k s => s.length ≤ k) f mk (fun s _ x => .inl (s ++ [x])) (fun s => s) (fun s k hI hk => hf s k hI hk) (fun s k s' hI hk h => by injection h with h; subst h; simp; omega) (fun s _ => hl s) _ (by simp)]
  congr 1
  have key : ∀ (ys acc : List α) (j : Nat), goI (R := List α) (fun s _ x => .inl (s ++ [x])) (fun s => s) ys j acc = acc ++ ys := by
    intro ys
    induction ys with
    | nil => intro acc j; simp [goI]
    | cons y ys ih => intro acc j; unfold goI; simp only []; rw [ih]; simp
  exact key _ _ _
theorem rep_ {α : Type} {n : Nat} {z : α} {k : Nat} (h : k < n) : (0 : Int) ≤ (k : Int) ∧ (k : Int) < ((List.replicate (n : Int).toNat z).length : Int) := by
  rw [List.length_replicate, Int.toNat_natCast]; omega
theorem toIntS_eq (xs : List Int) (h : xs.length ≤ 1048576) : Zl xs = some xs := by
  unfold Zl
  rw [if_pos (by omega), set_loop xs 0 (fun s : (List Int) × Int => Zl_L1 xs s.1 s.2) (fun s i => (s, i)) (fun ys k hl hk => by
    show Zl_L1 xs ys (k : Int) = _
    unfold Zl_L1
    rw [if_pos (lt_ hk), if_pos (inr_ hk), if_pos (rep_ hk), w64k (by unfold big; omega)]; rfl) (fun ys _ => by
    show Zl_L1 xs ys (xs.length : Int) = _
    unfold Zl_L1; simp only [nlt_, Bool.false_eq_true, if_false])]
  rfl
theorem toFix_eq (x : Fix) (h : x.Data.length ≤ 1048576) : Z1u x = some x := by
  unfold Z1u; rw [toIntS_eq _ h]; rfl
theorem toFixS_eq (xs : List Fix) (h : xs.length ≤ 1048576) (hd : ∀ f ∈ xs, f.Data.length ≤ 1048576) : Z0a xs = some xs := by
  unfold Z0a
  rw [if_pos (by omega), set_loop xs zT57.z (fun s : (List Fix) × Int => Z0a_L1 xs s.1 s.2) (fun s i => (s, i)) (fun ys k hl hk => by
    show Z0a_L1 xs ys (k : Int) = _
    unfold Z0a_L1
    rw [if_pos (lt_ hk), if_pos (inr_ hk), toFix_eq _ (hd _ (ix_mem hk)), bind_some', if_pos (rep_ hk), w64k (by unfold big; omega)]; rfl) (fun ys _ => by
    show Z0a_L1 xs ys (xs.length : Int) = _
    unfold Z0a_L1; simp only [nlt_, Bool.false_eq_true, if_false])]
  rfl
theorem toAccess_eq (x : Access) (h : x.Steps.length ≤ 1048576) : Z1e x = some x := by
  unfold Z1e; rw [toIntS_eq _ h]; rfl
theorem toAccessS_eq (xs : List Access) (h : xs.length ≤ 1048576) (hd : ∀ f ∈ xs, f.Steps.length ≤ 1048576) : Z07 xs = some xs := by
  unfold Z07
  rw [if_pos (by omega), set_loop xs zT61.z (fun s : (List Access) × Int => Z07_L1 xs s.1 s.2) (fun s i => (s, i)) (fun ys k hl hk => by
    show Z07_L1 xs ys (k : Int) = _
    unfold Z07_L1
    rw [if_pos (lt_ hk), if_pos (inr_ hk), toAccess_eq _ (hd _ (ix_mem hk)), bind_some', if_pos (rep_ hk), w64k (by unfold big; omega)]; rfl) (fun ys _ => by
    show Z07_L1 xs ys (xs.length : Int) = _
    unfold Z07_L1; simp only [nlt_, Bool.false_eq_true, if_false])]
  rfl
theorem toCalcS_eq (xs : List Calc) (h : xs.length ≤ 1048576) : Z04 xs = some xs := by
  unfold Z04
  rw [if_pos (by omega), set_loop xs zT101.z (fun s : (List Calc) × Int => Z04_L1 xs s.1 s.2) (fun s i => (s, i)) (fun ys k hl hk => by
    show Z04_L1 xs ys (k : Int) = _
    unfold Z04_L1 Z1z
    rw [if_pos (lt_ hk), if_pos (inr_ hk), bind_some', if_pos (rep_ hk), w64k (by unfold big; omega)]; rfl) (fun ys _ => by
    show Z04_L1 xs ys (xs.length : Int) = _
    unfold Z04_L1; simp only [nlt_, Bool.false_eq_true, if_false])]
  rfl
structure SmK (k : Kernel) : Prop where
  loops : k.Loops.length ≤ 1048576
  loads : k.Loads.length ≤ 1048576
  steps : ∀ a ∈ k.Loads, a.Steps.length ≤ 1048576
  store : k.Store.Steps.length ≤ 1048576
  code : k.Code.length ≤ 1048576
theorem Sm.ker {l : Nest} (h : Sm l) {k : Kernel} (hk : k ∈ l.Kernels) : SmK k := ⟨h.loops k hk, h.loads k hk, h.steps k hk, h.store k hk, h.code k hk⟩
theorem toKernel_eq (x : Kernel) (h : SmK x) : Z1p x = some x := by
  unfold Z1p
  rw [toIntS_eq _ h.loops, bind_some', toAccessS_eq _ h.loads h.steps, bind_some', toAccess_eq _ h.store, bind_some', toCalcS_eq _ h.code]; rfl
theorem toKernelS_eq (xs : List Kernel) (h : xs.length ≤ 1048576) (hd : ∀ f ∈ xs, SmK f) : Z0b xs = some xs := by
  unfold Z0b
  rw [if_pos (by omega), set_loop xs zT64.z (fun s : (List Kernel) × Int => Z0b_L1 xs s.1 s.2) (fun s i => (s, i)) (fun ys k hl hk => by
    show Z0b_L1 xs ys (k : Int) = _
    unfold Z0b_L1
    rw [if_pos (lt_ hk), if_pos (inr_ hk), toKernel_eq _ (hd _ (ix_mem hk)), bind_some', if_pos (rep_ hk), w64k (by unfold big; omega)]; rfl) (fun ys _ => by
    show Z0b_L1 xs ys (xs.length : Int) = _
    unfold Z0b_L1; simp only [nlt_, Bool.false_eq_true, if_false])]
  rfl
theorem toNest_eq (x : Nest) (h : Sm x) : Z11 x = some x := by
  unfold Z11
  rw [toIntS_eq _ h.sizes, bind_some', toIntS_eq _ h.ins, bind_some', toFixS_eq _ h.fixed h.data, bind_some', toKernelS_eq _ h.kers (fun k hk => h.ker hk), bind_some', toIntS_eq _ h.outs]; rfl
theorem ints_eq (xs : List Int) (h : xs.length ≤ 1048576) : Zc xs = some xs := by
  unfold Zc; rw [if_pos (by simp; omega)]; simp
theorem cloneI_eq (xs : List Int) (h : xs.length ≤ 1048576) : Z0r xs = some xs := by
  unfold Z0r; rw [if_pos (by omega)]
theorem copyKernel_eq (k : Kernel) (h : SmK k) : Z01 k = some k := by
  unfold Z01
  have := h.code
  have := h.loads
  rw [ints_eq _ h.loops, bind_some', ints_eq _ h.store, bind_some', if_pos (by simp; omega)]
  rw [app_loop k.Loads (fun s : (List Access) × Int => Z01_L1 k s.1 s.2) (fun s i => (s, i)) 1048576 h.loads (fun ys j hl hj => by
    show Z01_L1 k ys (j : Int) = _
    unfold Z01_L1
    rw [if_pos (lt_ hj), if_pos (inr_ hj), ints_eq _ (h.steps _ (ix_mem hj)), bind_some', if_pos (by simp; omega), w64k (by unfold big; omega)]) (fun ys => by
    show Z01_L1 k ys (k.Loads.length : Int) = _
    unfold Z01_L1; simp only [nlt_, Bool.false_eq_true, if_false])]
  rw [bind_some']
  unfold Z01_J1
  simp
theorem copyNest_eq (l : Nest) (h : Sm l) : Zg l = some l := by
  unfold Zg
  have := h.fixed
  have := h.kers
  rw [ints_eq _ h.sizes, bind_some', ints_eq _ h.ins, bind_some', ints_eq _ h.outs, bind_some']
  rw [app_loop l.Fixed (fun s : (List Fix) × Int => Zg_L1 l s.1 s.2) (fun s i => (s, i)) 1048576 h.fixed (fun ys j hl hj => by
    show Zg_L1 l ys (j : Int) = _
    unfold Zg_L1
    rw [if_pos (lt_ hj), if_pos (inr_ hj), ints_eq _ (h.data _ (ix_mem hj)), bind_some', if_pos (by simp; omega), w64k (by unfold big; omega)]) (fun ys => by
    show Zg_L1 l ys (l.Fixed.length : Int) = _
    unfold Zg_L1; simp only [nlt_, Bool.false_eq_true, if_false])]
  rw [bind_some']
  unfold Zg_J1
  rw [app_loop l.Kernels (fun s : (List Kernel) × Int => Zg_L2 l s.1 s.2) (fun s i => (s, i)) 1048576 h.kers (fun ys j hl hj => by
    show Zg_L2 l ys (j : Int) = _
    unfold Zg_L2
    rw [if_pos (lt_ hj), if_pos (inr_ hj), copyKernel_eq _ (h.ker (ix_mem hj)), bind_some', if_pos (by simp; omega), w64k (by unfold big; omega)]) (fun ys => by
    show Zg_L2 l ys (l.Kernels.length : Int) = _
    unfold Zg_L2; simp only [nlt_, Bool.false_eq_true, if_false])]
  rfl
theorem cloneAcc_eq (x : Access) (h : x.Steps.length ≤ 1048576) : Z1b x = some x := by
  unfold Z1b; rw [cloneI_eq _ h]; rfl
theorem cloneFix_eq (x : Fix) (h : x.Data.length ≤ 1048576) : Z1n x = some x := by
  unfold Z1n; rw [cloneI_eq _ h]; rfl
theorem cloneFixS_eq (xs : List Fix) (h : xs.length ≤ 1048576) (hd : ∀ f ∈ xs, f.Data.length ≤ 1048576) : Z0d xs = some xs := by
  unfold Z0d
  rw [if_pos (by omega), set_loop xs zT57.z (fun s : (List Fix) × Int => Z0d_L1 xs s.1 s.2) (fun s i => (s, i)) (fun ys k hl hk => by
    show Z0d_L1 xs ys (k : Int) = _
    unfold Z0d_L1
    rw [if_pos (lt_ hk), if_pos (inr_ hk), cloneFix_eq _ (hd _ (ix_mem hk)), bind_some', if_pos (rep_ hk), w64k (by unfold big; omega)]; rfl) (fun ys _ => by
    show Z0d_L1 xs ys (xs.length : Int) = _
    unfold Z0d_L1; simp only [nlt_, Bool.false_eq_true, if_false])]
  rfl
theorem cloneAccS_eq (xs : List Access) (h : xs.length ≤ 1048576) (hd : ∀ f ∈ xs, f.Steps.length ≤ 1048576) : Z0e xs = some xs := by
  unfold Z0e
  rw [if_pos (by omega), set_loop xs zT61.z (fun s : (List Access) × Int => Z0e_L1 xs s.1 s.2) (fun s i => (s, i)) (fun ys k hl hk => by
    show Z0e_L1 xs ys (k : Int) = _
    unfold Z0e_L1
    rw [if_pos (lt_ hk), if_pos (inr_ hk), cloneAcc_eq _ (hd _ (ix_mem hk)), bind_some', if_pos (rep_ hk), w64k (by unfold big; omega)]; rfl) (fun ys _ => by
    show Z0e_L1 xs ys (xs.length : Int) = _
    unfold Z0e_L1; simp only [nlt_, Bool.false_eq_true, if_false])]
  rfl
theorem cloneKer_eq (x : Kernel) (h : SmK x) : Z1l x = some x := by
  unfold Z1l Z27
  have := h.code
  rw [cloneI_eq _ h.loops, bind_some', cloneAccS_eq _ h.loads h.steps, bind_some', cloneAcc_eq _ h.store, bind_some', if_pos (by omega)]; rfl
theorem cloneKerS_eq (xs : List Kernel) (h : xs.length ≤ 1048576) (hd : ∀ f ∈ xs, SmK f) : Z0f xs = some xs := by
  unfold Z0f
  rw [if_pos (by omega), set_loop xs zT64.z (fun s : (List Kernel) × Int => Z0f_L1 xs s.1 s.2) (fun s i => (s, i)) (fun ys k hl hk => by
    show Z0f_L1 xs ys (k : Int) = _
    unfold Z0f_L1
    rw [if_pos (lt_ hk), if_pos (inr_ hk), cloneKer_eq _ (hd _ (ix_mem hk)), bind_some', if_pos (rep_ hk), w64k (by unfold big; omega)]; rfl) (fun ys _ => by
    show Z0f_L1 xs ys (xs.length : Int) = _
    unfold Z0f_L1; simp only [nlt_, Bool.false_eq_true, if_false])]
  rfl
theorem cloneNest_eq (l : Nest) (h : Sm l) : Z13 l = some l := by
  unfold Z13
  rw [cloneFixS_eq _ h.fixed h.data, bind_some', cloneI_eq _ h.sizes, bind_some', cloneI_eq _ h.ins, bind_some', cloneKerS_eq _ h.kers (fun k hk => h.ker hk), bind_some', cloneI_eq _ h.outs]; rfl
def hasB (k : Kernel) (b : Int) : Bool := k.Loads.any fun a => a.Buffer == b
def usesF (b : Int) : List Access → Nat → List Int
  | [], _ => []
  | a :: t, j => if a.Buffer == b then (j : Int) :: usesF b t (j + 1) else usesF b t (j + 1)
theorem uses_eq (k : Kernel) (b : Int) (h : k.Loads.length ≤ 1048576) : Zo k b = some (usesF b k.Loads 0) := by
  unfold Zo
  rw [loop_goI (S := List Int) k.Loads (fun j s => s.length ≤ j) (fun s : (List Int) × Int => Zo_L1 k b s.1 s.2) (fun s i => (s, i)) (fun s j a => .inl (if a.Buffer == b then s ++ [(j : Int)] else s)) (fun s => s) ?_ ?_ ?_ [] (by simp)]
  · rw [bind_some']
    unfold Zo_J3
    congr 1
    have key : ∀ (xs : List Access) (acc : List Int) (j : Nat), goI (R := List Int) (fun s j a => .inl (if a.Buffer == b then s ++ [(j : Int)] else s)) (fun s => s) xs j acc = acc ++ usesF b xs j := by
      intro xs
      induction xs with
      | nil => intro acc j; simp [goI, usesF]
      | cons a t ih =>
        intro acc j
        unfold goI usesF
        simp only []
        rw [ih]
        split <;> simp
    exact key _ _ _
  · intro s j hI hj
    show Zo_L1 k b s (j : Int) = _
    unfold Zo_L1 Zo_J2
    rw [if_pos (lt_ hj), if_pos (inr_ hj), w64k (by unfold big; omega)]
    cases hq : ((ix k.Loads (j : Int)).Buffer == b)
    · simp
    · rw [if_pos rfl, if_pos (by simp; omega)]; simp
  · intro s j s' hI hj hs
    injection hs with hs; subst hs
    split
    · simp; omega
    · omega
  · intro s _
    show Zo_L1 k b s (k.Loads.length : Int) = _
    unfold Zo_L1; simp only [nlt_, Bool.false_eq_true, if_false]
theorem usesF_nil (b : Int) (xs : List Access) (j : Nat) : ((usesF b xs j).length = 0) ↔ (xs.any fun a => a.Buffer == b) = false := by
  induction xs generalizing j with
  | nil => simp [usesF]
  | cons a t ih =>
    unfold usesF
    rw [List.any_cons]
    cases hq : (a.Buffer == b)
    · simpa [hq] using ih (j + 1)
    · simp
theorem loadsOf_eq (k : Kernel) (b : Int) (h : k.Loads.length ≤ 1048576) : ∃ n : Int, Z08 k b = some n ∧ (decide (n > 0)) = hasB k b := by
  unfold Z08
  rw [loop_goI (S := Int) k.Loads (fun j s => 0 ≤ s ∧ s ≤ j) (fun s : Int × Int => Z08_L1 k b s.1 s.2) (fun s i => (s, i)) (fun s j a => .inl (if a.Buffer == b then s + 1 else s)) (fun s => s) ?_ ?_ ?_ 0 (by omega)]
  · refine ⟨_, rfl, ?_⟩
    have key : ∀ (xs : List Access) (acc : Int) (j : Nat), 0 ≤ acc → decide (goI (R := Int) (fun s j a => .inl (if a.Buffer == b then s + 1 else s)) (fun s => s) xs j acc > 0) = (decide (acc > 0) || xs.any fun a => a.Buffer == b) := by
      intro xs
      induction xs with
      | nil => intro acc j _; simp [goI]
      | cons a t ih =>
        intro acc j h0
        unfold goI
        simp only []
        rw [ih _ _ (by split <;> omega), List.any_cons]
        cases hq : (a.Buffer == b)
        · simp
        · simp; left; omega
    have := key k.Loads 0 0 (by omega)
    rw [this]; rfl
  · rintro s j ⟨i0, i1⟩ hj
    show Z08_L1 k b s (j : Int) = _
    unfold Z08_L1 Z1y
    rw [if_pos (lt_ hj), if_pos (inr_ hj), w64k (by unfold big; omega)]
    cases hq : ((ix k.Loads (j : Int)).Buffer == b)
    · simp [bind_some', w64_id (n := s) (by omega) (by omega)]
    · simp [bind_some', w64_id (n := s + 1) (by omega) (by omega)]
  · rintro s j s' ⟨i0, i1⟩ hj hs
    injection hs with hs; subst hs
    split <;> omega
  · intro s _
    show Z08_L1 k b s (k.Loads.length : Int) = _
    unfold Z08_L1; simp only [nlt_, Bool.false_eq_true, if_false]
structure KI (sizes : List Int) (k : Kernel) : Prop where
  loops : k.Loops.length ≤ 12
  loads : k.Loads.length ≤ 30
  steps : ∀ a ∈ k.Loads, a.Steps.length = k.Loops.length
  store : k.Store.Steps.length = k.Loops.length
  code1 : 1 ≤ k.Code.length
  code2 : k.Code.length ≤ 60
  buf : 0 ≤ k.Store.Buffer ∧ k.Store.Buffer < (sizes.length : Int)
  op1 : ∀ j : Nat, j < k.Code.length → (ix k.Code (j : Int)).Op = 1 → 0 ≤ (ix k.Code (j : Int)).A ∧ (ix k.Code (j : Int)).A < (k.Loads.length : Int)
  op3 : ∀ j : Nat, j < k.Code.length → (ix k.Code (j : Int)).Op = 3 ∨ (ix k.Code (j : Int)).Op = 4 ∨ (ix k.Code (j : Int)).Op = 5 → 0 ≤ (ix k.Code (j : Int)).B ∧ (ix k.Code (j : Int)).B < (j : Int)
  opn : ∀ j : Nat, j < k.Code.length → (ix k.Code (j : Int)).Op ≠ 1 → (ix k.Code (j : Int)).Op ≠ 2 → 0 ≤ (ix k.Code (j : Int)).A ∧ (ix k.Code (j : Int)).A < (j : Int)
theorem ki_of_ker {sizes : List Int} {k : Kernel} (h : kerB sizes k = true) : KI sizes k := by
  unfold kerB accB at h
  simp only [Bool.and_eq_true, decide_eq_true_eq] at h
  obtain ⟨⟨⟨⟨⟨h1, h2⟩, h3⟩, h4⟩, ⟨h5, h6⟩, h7⟩, h8⟩ := h
  have hfit : ∀ a z, fitB a k.Loops z = true → a.Steps.length = k.Loops.length := fun a z h => by
    unfold fitB at h
    simp only [Bool.and_eq_true, decide_eq_true_eq] at h
    exact h.1.1.1
  unfold codeB at h4
  simp only [Bool.and_eq_true, decide_eq_true_eq, List.all_eq_true, List.mem_range] at h4
  obtain ⟨⟨c1, c2⟩, c3⟩ := h4
  refine ⟨h1, h2, fun a ha => ?_, hfit _ _ h7, c1, c2, ⟨h5, h6⟩, fun j hj ho => ?_, fun j hj ho => ?_, fun j hj n1 n2 => ?_⟩
  · have := List.all_eq_true.1 h8 a ha
    unfold ldB accB at this
    simp only [Bool.and_eq_true, decide_eq_true_eq] at this
    exact hfit _ _ this.1.2
  · have := c3 j hj
    unfold okC at this
    simp only [ho, beq_self_eq_true, if_true, Bool.and_eq_true, decide_eq_true_eq] at this
    exact ⟨this.1.1, this.1.2⟩
  · have := c3 j hj
    unfold okC at this
    rcases ho with ho | ho | ho <;>
      · simp only [ho] at this
        simp at this
        omega
  · have := c3 j hj
    unfold okC at this
    have e1 := beq_eq_false_iff_ne.2 n1
    have e2 := beq_eq_false_iff_ne.2 n2
    simp only [e1, e2, Bool.false_eq_true, if_false] at this
    split at this
    · simp only [Bool.and_eq_true, decide_eq_true_eq] at this; exact ⟨this.1.1.1, this.1.1.2⟩
    · split at this
      · simp only [Bool.and_eq_true, decide_eq_true_eq] at this; exact ⟨this.1.1, this.1.2⟩
      · cases this
theorem eqI_rfl (xs : List Int) (h : xs.length ≤ 1048576) : Zp xs xs = some true := by
  rw [eqIntS_same, same_eq _ _ (by unfold big; omega)]; simp
theorem eqL_rfl {α : Type} [Inhabited α] (xs : List α) (f : Int → Option (Int ⊕ (Bool ⊕ Unit))) (hl : xs.length ≤ 1048576) (e : α → α → Option Bool) (he : ∀ x ∈ xs, e x x = some true)
    (hf : ∀ i, f i = if (decide (i < (xs.length : Int))) = true then (if (0 ≤ i ∧ i < (xs.length : Int)) then if (0 ≤ i ∧ i < (xs.length : Int)) then (e (ix xs i) (ix xs i)).bind fun (r : Bool) => if (!r) = true then (some (.inr (.inl false))) else (some (.inl (w64 (i + (1 : Int))))) else none else none) else (some (.inr (.inr ())))) :
    loopM f 0 = some (.inr ()) := by
  rw [loop_all xs f (fun i => i) (fun _ => true) (.inl false) (.inr ()) (fun k hk => by
    rw [hf, if_pos (lt_ hk), if_pos (inr_ hk), if_pos (inr_ hk), he _ (ix_mem hk), bind_some', w64k (by unfold big; omega)]; rfl) (by rw [hf]; simp only [nlt_, Bool.false_eq_true, if_false])]
  simp
theorem bne_self_i (x : Int) : (x != x) = false := by simp
theorem eqFix_rfl (x : Fix) (h : x.Data.length ≤ 1048576) : Z1j x x = some true := by
  unfold Z1j; rw [bne_self_i, eqI_rfl _ h]; rfl
theorem eqFixS_rfl (xs : List Fix) (hl : xs.length ≤ 1048576) (h : ∀ x ∈ xs, x.Data.length ≤ 1048576) : Z0t xs xs = some true := by
  unfold Z0t
  rw [bne_self_i, eqL_rfl xs (fun s : Int => Z0t_L1 xs xs s) hl Z1j (fun x hx => eqFix_rfl x (h x hx)) (fun _ => rfl)]; rfl
theorem eqAcc_rfl (x : Access) (h : x.Steps.length ≤ 1048576) : Z17 x x = some true := by
  unfold Z17; rw [bne_self_i, bne_self_i, eqI_rfl _ h]; rfl
theorem eqAccS_rfl (xs : List Access) (hl : xs.length ≤ 1048576) (h : ∀ x ∈ xs, x.Steps.length ≤ 1048576) : Z0v xs xs = some true := by
  unfold Z0v
  rw [bne_self_i, eqL_rfl xs (fun s : Int => Z0v_L1 xs xs s) hl Z17 (fun x hx => eqAcc_rfl x (h x hx)) (fun _ => rfl)]; rfl
theorem eqCalc_rfl (x : Calc) : Z1f x x = some true := by
  unfold Z1f; rw [bne_self_i, bne_self_i, bne_self_i]; rfl
theorem eqCalcS_rfl (xs : List Calc) (hl : xs.length ≤ 1048576) : Z0s xs xs = some true := by
  unfold Z0s
  rw [bne_self_i, eqL_rfl xs (fun s : Int => Z0s_L1 xs xs s) hl Z1f (fun x hx => eqCalc_rfl x) (fun _ => rfl)]; rfl
theorem eqKer_rfl (x : Kernel) (h : SmK x) : Z1i x x = some true := by
  unfold Z1i
  rw [eqI_rfl _ h.loops, bind_some', eqAccS_rfl _ h.loads h.steps, bind_some', eqAcc_rfl _ h.store, bind_some', eqCalcS_rfl _ h.code, bind_some']
  simp
theorem eqKerS_rfl (xs : List Kernel) (hl : xs.length ≤ 1048576) (h : ∀ x ∈ xs, SmK x) : Z0u xs xs = some true := by
  unfold Z0u
  rw [bne_self_i, eqL_rfl xs (fun s : Int => Z0u_L1 xs xs s) hl Z1i (fun x hx => eqKer_rfl x (h x hx)) (fun _ => rfl)]; rfl
theorem eqNest_rfl (l : Nest) (h : Sm l) : Z1c l l = some true := by
  unfold Z1c
  rw [eqI_rfl _ h.sizes, bind_some', eqI_rfl _ h.ins, bind_some', eqFixS_rfl _ h.fixed h.data, bind_some', eqKerS_rfl _ h.kers (fun k hk => h.ker hk), bind_some', eqI_rfl _ h.outs]; rfl
def BB : Nat := 4611686018427387904
theorem ix_set {α : Type} [Inhabited α] {ys : List α} {k : Nat} {v : α} (h : k < ys.length) : ix (ys.set k v) (k : Int) = v := by
  rw [ix_at (by simpa using h)]; simp
theorem ix_set_ne {α : Type} [Inhabited α] {ys : List α} {k j : Nat} {v : α} (h : k ≠ j) : ix (ys.set k v) (j : Int) = ix ys (j : Int) := by
  simp [ix, List.getD_eq_getElem?_getD, List.getElem?_set, h]
def cnt {α : Type} (n : α → Nat) (xs : List α) : Nat := (xs.map n).sum
theorem cnt_cons {α : Type} (n : α → Nat) (x : α) (t : List α) : cnt n (x :: t) = n x + cnt n t := by simp [cnt]
theorem cnt_drop {α : Type} (n : α → Nat) {xs : List α} {k : Nat} (h : k < xs.length) : cnt n (xs.drop k) = n xs[k] + cnt n (xs.drop (k + 1)) := by
  rw [List.drop_eq_getElem_cons h, cnt_cons]
theorem mark_loop {α T U : Type} [Inhabited α] (xs : List α) (n : α → Nat) (g : α → Nat → α) (f : T → Option (T ⊕ (Int × List α))) (mk : List α → Int → Int → T)
    (hf : ∀ (ys : List α) (k i : Nat), i < xs.length → ys.length = xs.length → ix ys (i : Int) = ix xs (i : Int) → k + n (ix xs (i : Int)) ≤ BB → f (mk ys (k : Int) (i : Int)) = some (.inl (mk (ys.set i (g (ix xs (i : Int)) k)) ((k + n (ix xs (i : Int)) : Nat) : Int) ((i + 1 : Nat) : Int))))
    (he : ∀ ys k, f (mk ys k (xs.length : Int)) = some (.inr (k, ys))) (k : Nat) (hk : k + cnt n xs ≤ BB) :
    ∃ ys, loopM f (mk xs (k : Int) 0) = some (((k + cnt n xs : Nat) : Int), ys) ∧ ys.length = xs.length ∧
      ∀ (f2 : U → Option (U ⊕ (Int ⊕ Int))) (mk2 : Int → Int → U), (∀ (k i : Nat), i < xs.length → k + n (ix xs (i : Int)) ≤ BB → ix ys (i : Int) = g (ix xs (i : Int)) k → f2 (mk2 (k : Int) (i : Int)) = some (.inl (mk2 ((k + n (ix xs (i : Int)) : Nat) : Int) ((i + 1 : Nat) : Int)))) →
        (∀ k, f2 (mk2 k (xs.length : Int)) = some (.inr (.inr k))) → loopM f2 (mk2 (k : Int) 0) = some (.inr ((k + cnt n xs : Nat) : Int)) := by
  have key : ∀ (m i k : Nat) (ys : List α), i + m = xs.length → ys.length = xs.length → (∀ j, i ≤ j → j < xs.length → ix ys (j : Int) = ix xs (j : Int)) → k + cnt n (xs.drop i) ≤ BB →
      ∃ zs, loopM f (mk ys (k : Int) (i : Int)) = some (((k + cnt n (xs.drop i) : Nat) : Int), zs) ∧ zs.length = xs.length ∧ (∀ j, j < i → ix zs (j : Int) = ix ys (j : Int)) ∧
        ∀ (f2 : U → Option (U ⊕ (Int ⊕ Int))) (mk2 : Int → Int → U), (∀ (k j : Nat), i ≤ j → j < xs.length → k + n (ix xs (j : Int)) ≤ BB → ix zs (j : Int) = g (ix xs (j : Int)) k → f2 (mk2 (k : Int) (j : Int)) = some (.inl (mk2 ((k + n (ix xs (j : Int)) : Nat) : Int) ((j + 1 : Nat) : Int)))) →
          (∀ k, f2 (mk2 k (xs.length : Int)) = some (.inr (.inr k))) → loopM f2 (mk2 (k : Int) (i : Int)) = some (.inr ((k + cnt n (xs.drop i) : Nat) : Int)) := by
    intro m
    induction m with
    | zero =>
      intro i k ys hi hl _ _
      have hi : i = xs.length := by omega
      subst hi
      rw [List.drop_length]
      exact ⟨ys, loopM_end (he ys k), hl, fun j _ => rfl, fun f2 mk2 _ h2 => loopM_end (h2 k)⟩
    | succ m ih =>
      intro i k ys hi hl hx hb
      have hlt : i < xs.length := by omega
      have hc := cnt_drop n hlt
      rw [← ix_at hlt] at hc
      have hf' := hf ys k i hlt hl (hx i (Nat.le_refl _) hlt) (by omega)
      obtain ⟨zs, z1, z2, z3, z4⟩ := ih (i + 1) (k + n (ix xs (i : Int))) (ys.set i (g (ix xs (i : Int)) k)) (by omega) (by simpa using hl) (fun j h1 h2 => by
        rw [ix_set_ne (by omega)]; exact hx j (by omega) h2) (by omega)
      have hsum : k + n (ix xs (i : Int)) + cnt n (xs.drop (i + 1)) = k + cnt n (xs.drop i) := by omega
      rw [hsum] at z1 z4
      refine ⟨zs, by rw [loopM_next hf']; exact z1, z2, fun j hj => ?_, fun f2 mk2 h1 h2 => ?_⟩
      · rw [z3 j (by omega), ix_set_ne (by omega)]
      · have hz : ix zs (i : Int) = g (ix xs (i : Int)) k := by rw [z3 i (by omega), ix_set (by omega)]
        rw [loopM_next (h1 k i (Nat.le_refl _) hlt (by omega) hz)]
        exact z4 f2 mk2 (fun k j h3 => h1 k j (by omega)) h2
  obtain ⟨ys, y1, y2, _, y4⟩ := key xs.length 0 k xs (by omega) rfl (fun _ _ _ => rfl) (by simpa using hk)
  rw [List.drop_zero] at y1 y4
  exact ⟨ys, y1, y2, fun f2 mk2 h1 h2 => y4 f2 mk2 (fun k j _ => h1 k j) h2⟩
theorem wn {k : Nat} (h : k + 1 ≤ BB) : w64 ((k : Int) + 1) = ((k + 1 : Nat) : Int) := by
  unfold BB at h; rw [w64_id (by omega) (by omega)]; omega
theorem cnt_one {α : Type} (c : Nat) (xs : List α) : cnt (fun _ => c) xs = c * xs.length := by
  induction xs with
  | nil => simp [cnt]
  | cons x t ih => rw [cnt_cons, ih, List.length_cons, Nat.mul_succ]; omega
theorem nonneg_ (k : Nat) : decide ((k : Int) < 0) = false := decide_eq_false (by omega)
noncomputable def mkI (xs : List Int) (k : Nat) : List Int := ((Zf xs (k : Int)).getD default).2
theorem wi {n k : Nat} (hn : n ≤ 1048576) (h : k < n) : w64 ((k : Int) + 1) = ((k + 1 : Nat) : Int) := w64k (by unfold big; omega)
theorem markI_eq (xs : List Int) (k : Nat) (hl : xs.length ≤ 1048576) (h : k + xs.length ≤ BB) : Zf xs (k : Int) = some (((k + xs.length : Nat) : Int), mkI xs k) ∧ Zh (mkI xs k) (k : Int) = some ((k + xs.length : Nat) : Int) := by
  obtain ⟨ys, y1, y2, y3⟩ := mark_loop (U := Int × Int) xs (fun _ => 1) (fun _ k => (k : Int)) (fun s : (List Int) × Int × Int => Zf_L1 xs s.1 s.2.1 s.2.2) (fun ys k i => (ys, k, i)) (fun ys k i hi hy hx hk => by
    show Zf_L1 xs ys (k : Int) (i : Int) = _
    unfold Zf_L1
    rw [if_pos (lt_ hi), if_pos (inr_ hi), wi hl hi, wn hk, Int.toNat_natCast]) (fun ys k => by
    show Zf_L1 xs ys k (xs.length : Int) = _
    unfold Zf_L1; simp only [nlt_, Bool.false_eq_true, if_false]) k (by rw [cnt_one]; omega)
  rw [cnt_one, Nat.one_mul] at y1 y3
  have e : Zf xs (k : Int) = some (((k + xs.length : Nat) : Int), ys) := by
    unfold Zf; rw [y1, bind_some']; rfl
  have em : mkI xs k = ys := by unfold mkI; rw [e]; rfl
  rw [em]
  refine ⟨e, ?_⟩
  unfold Zh
  rw [y3 (fun s : Int × Int => Zh_L1 ys s.1 s.2) (fun k i => (k, i)) (fun k i hi hk hz => by
    show Zh_L1 ys (k : Int) (i : Int) = _
    unfold Zh_L1
    rw [if_pos (lt_ (by omega)), if_pos (inr_ (by omega)), hz, bne_self_i, wi hl hi, wn hk]; rfl) (fun k => by
    show Zh_L1 ys k (xs.length : Int) = _
    rw [← y2]
    unfold Zh_L1; simp only [nlt_, Bool.false_eq_true, if_false])]
  rfl
def nF (x : Fix) : Nat := 1 + x.Data.length
noncomputable def gF (x : Fix) (k : Nat) : Fix := ⟨(k : Int), mkI x.Data (k + 1)⟩
noncomputable def mkF (xs : List Fix) (k : Nat) : List Fix := ((Zw xs (k : Int)).getD default).2
theorem markF_eq (xs : List Fix) (k : Nat) (hl : xs.length ≤ 1048576) (hd : ∀ x ∈ xs, x.Data.length ≤ 1048576) (h : k + cnt nF xs ≤ BB) : Zw xs (k : Int) = some (((k + cnt nF xs : Nat) : Int), mkF xs k) ∧ Z06 (mkF xs k) (k : Int) = some ((k + cnt nF xs : Nat) : Int) := by
  obtain ⟨ys, y1, y2, y3⟩ := mark_loop (U := Int × Int) xs nF gF (fun s : (List Fix) × Int × Int => Zw_L1 xs s.1 s.2.1 s.2.2) (fun ys k i => (ys, k, i)) (fun ys k i hi hy hx hk => by
    show Zw_L1 xs ys (k : Int) (i : Int) = _
    have hdi := hd _ (ix_mem hi)
    have hiy : i < ys.length := by omega
    unfold nF at hk
    unfold Zw_L1 gF nF
    rw [if_pos (lt_ hi), if_pos (inr_ hi), wi hl hi, wn (by omega), Int.toNat_natCast]
    simp only [ix_set hiy, List.set_set, hx]
    rw [(markI_eq _ (k + 1) hdi (by omega)).1, bind_some', nm_bind, Nat.add_assoc]) (fun ys k => by
    show Zw_L1 xs ys k (xs.length : Int) = _
    unfold Zw_L1; simp only [nlt_, Bool.false_eq_true, if_false]) k h
  have e : Zw xs (k : Int) = some (((k + cnt nF xs : Nat) : Int), ys) := by
    unfold Zw; rw [y1, bind_some']; rfl
  have em : mkF xs k = ys := by unfold mkF; rw [e]; rfl
  rw [em]
  refine ⟨e, ?_⟩
  unfold Z06
  rw [y3 (fun s : Int × Int => Z06_L1 ys s.1 s.2) (fun k i => (k, i)) (fun k i hi hk hz => by
    show Z06_L1 ys (k : Int) (i : Int) = _
    have hdi := hd _ (ix_mem hi)
    unfold nF at hk
    unfold Z06_L1 nF
    rw [if_pos (lt_ (by omega)), if_pos (inr_ (by omega)), hz, wi hl hi, wn (by omega)]
    unfold gF
    simp only [bne_self_i, Bool.false_eq_true, if_false]
    rw [(markI_eq _ (k + 1) hdi (by omega)).2, bind_some', nonneg_, Nat.add_assoc]; rfl) (fun k => by
    show Z06_L1 ys k (xs.length : Int) = _
    rw [← y2]
    unfold Z06_L1; simp only [nlt_, Bool.false_eq_true, if_false])]
  rfl
def nA (x : Access) : Nat := 2 + x.Steps.length
noncomputable def gA (x : Access) (k : Nat) : Access := ⟨(k : Int), ((k + 1 : Nat) : Int), mkI x.Steps (k + 1 + 1)⟩
noncomputable def mkA (xs : List Access) (k : Nat) : List Access := ((Zv xs (k : Int)).getD default).2
theorem markA_eq (xs : List Access) (k : Nat) (hl : xs.length ≤ 1048576) (hd : ∀ x ∈ xs, x.Steps.length ≤ 1048576) (h : k + cnt nA xs ≤ BB) : Zv xs (k : Int) = some (((k + cnt nA xs : Nat) : Int), mkA xs k) ∧ Z0g (mkA xs k) (k : Int) = some ((k + cnt nA xs : Nat) : Int) := by
  obtain ⟨ys, y1, y2, y3⟩ := mark_loop (U := Int × Int) xs nA gA (fun s : (List Access) × Int × Int => Zv_L1 xs s.1 s.2.1 s.2.2) (fun ys k i => (ys, k, i)) (fun ys k i hi hy hx hk => by
    show Zv_L1 xs ys (k : Int) (i : Int) = _
    have hdi := hd _ (ix_mem hi)
    have hiy : i < ys.length := by omega
    unfold nA at hk
    unfold Zv_L1 gA nA
    rw [if_pos (lt_ hi), if_pos (inr_ hi), wi hl hi, wn (by omega), wn (by omega), Int.toNat_natCast]
    simp only [nm_bind, ix_set hiy, List.set_set, hx]
    rw [(markI_eq _ (k + 1 + 1) hdi (by omega)).1, bind_some', show k + 1 + 1 + (ix xs (i : Int)).Steps.length = k + (2 + (ix xs (i : Int)).Steps.length) by omega]) (fun ys k => by
    show Zv_L1 xs ys k (xs.length : Int) = _
    unfold Zv_L1; simp only [nlt_, Bool.false_eq_true, if_false]) k h
  have e : Zv xs (k : Int) = some (((k + cnt nA xs : Nat) : Int), ys) := by
    unfold Zv; rw [y1, bind_some']; rfl
  have em : mkA xs k = ys := by unfold mkA; rw [e]; rfl
  rw [em]
  refine ⟨e, ?_⟩
  unfold Z0g
  rw [y3 (fun s : Int × Int => Z0g_L1 ys s.1 s.2) (fun k i => (k, i)) (fun k i hi hk hz => by
    show Z0g_L1 ys (k : Int) (i : Int) = _
    have hdi := hd _ (ix_mem hi)
    unfold nA at hk
    unfold Z0g_L1 nA
    rw [if_pos (lt_ (by omega)), if_pos (inr_ (by omega)), hz, wi hl hi, wn (by omega), wn (by omega)]
    unfold gA
    simp only [bne_self_i, Bool.false_eq_true, if_false]
    rw [(markI_eq _ (k + 1 + 1) hdi (by omega)).2, bind_some', nonneg_, show k + 1 + 1 + (ix xs (i : Int)).Steps.length = k + (2 + (ix xs (i : Int)).Steps.length) by omega]; rfl) (fun k => by
    show Z0g_L1 ys k (xs.length : Int) = _
    rw [← y2]
    unfold Z0g_L1; simp only [nlt_, Bool.false_eq_true, if_false])]
  rfl
def gC (x : Calc) (k : Nat) : Calc := ⟨(k : Int), ((k + 1 : Nat) : Int), ((k + 1 + 1 : Nat) : Int)⟩
noncomputable def mkC (xs : List Calc) (k : Nat) : List Calc := ((Zy xs (k : Int)).getD default).2
theorem markC_eq (xs : List Calc) (k : Nat) (hl : xs.length ≤ 1048576) (h : k + 3 * xs.length ≤ BB) : Zy xs (k : Int) = some (((k + 3 * xs.length : Nat) : Int), mkC xs k) ∧ Z0h (mkC xs k) (k : Int) = some ((k + 3 * xs.length : Nat) : Int) := by
  obtain ⟨ys, y1, y2, y3⟩ := mark_loop (U := Int × Int) xs (fun _ => 3) gC (fun s : (List Calc) × Int × Int => Zy_L1 xs s.1 s.2.1 s.2.2) (fun ys k i => (ys, k, i)) (fun ys k i hi hy hx hk => by
    show Zy_L1 xs ys (k : Int) (i : Int) = _
    have hiy : i < ys.length := by omega
    unfold Zy_L1 gC
    rw [if_pos (lt_ hi), if_pos (inr_ hi), wi hl hi, wn (by omega), wn (by omega), wn (by omega), Int.toNat_natCast]
    simp only [nm_bind, ix_set hiy, List.set_set, hx]) (fun ys k => by
    show Zy_L1 xs ys k (xs.length : Int) = _
    unfold Zy_L1; simp only [nlt_, Bool.false_eq_true, if_false]) k (by rw [cnt_one]; omega)
  rw [cnt_one] at y1 y3
  have e : Zy xs (k : Int) = some (((k + 3 * xs.length : Nat) : Int), ys) := by
    unfold Zy; rw [y1, bind_some']; rfl
  have em : mkC xs k = ys := by unfold mkC; rw [e]; rfl
  rw [em]
  refine ⟨e, ?_⟩
  unfold Z0h
  rw [y3 (fun s : Int × Int => Z0h_L1 ys s.1 s.2) (fun k i => (k, i)) (fun k i hi hk hz => by
    show Z0h_L1 ys (k : Int) (i : Int) = _
    unfold Z0h_L1
    rw [if_pos (lt_ (by omega)), if_pos (inr_ (by omega)), hz, wi hl hi, wn (by omega), wn (by omega), wn (by omega)]
    unfold gC
    simp only [bne_self_i, Bool.false_eq_true, if_false]) (fun k => by
    show Z0h_L1 ys k (xs.length : Int) = _
    rw [← y2]
    unfold Z0h_L1; simp only [nlt_, Bool.false_eq_true, if_false])]
  rfl
def nK (x : Kernel) : Nat := x.Loops.length + cnt nA x.Loads + (2 + x.Store.Steps.length) + 1 + 3 * x.Code.length
noncomputable def gK (x : Kernel) (k : Nat) : Kernel :=
  ⟨mkI x.Loops k, mkA x.Loads (k + x.Loops.length), ⟨((k + x.Loops.length + cnt nA x.Loads : Nat) : Int), ((k + x.Loops.length + cnt nA x.Loads + 1 : Nat) : Int), mkI x.Store.Steps (k + x.Loops.length + cnt nA x.Loads + 1 + 1)⟩,
    (((k + x.Loops.length + cnt nA x.Loads + 1 + 1 + x.Store.Steps.length : Nat) : Int).tmod 3 == 0), mkC x.Code (k + x.Loops.length + cnt nA x.Loads + 1 + 1 + x.Store.Steps.length + 1)⟩
noncomputable def mkK (xs : List Kernel) (k : Nat) : List Kernel := ((Zu xs (k : Int)).getD default).2
theorem markK_eq (xs : List Kernel) (k : Nat) (hl : xs.length ≤ 1048576) (hd : ∀ x ∈ xs, SmK x) (h : k + cnt nK xs ≤ BB) : Zu xs (k : Int) = some (((k + cnt nK xs : Nat) : Int), mkK xs k) ∧ Z0c (mkK xs k) (k : Int) = some ((k + cnt nK xs : Nat) : Int) := by
  obtain ⟨ys, y1, y2, y3⟩ := mark_loop (U := Int × Int) xs nK gK (fun s : (List Kernel) × Int × Int => Zu_L1 xs s.1 s.2.1 s.2.2) (fun ys k i => (ys, k, i)) (fun ys k i hi hy hx hk => by
    show Zu_L1 xs ys (k : Int) (i : Int) = _
    have hdi := hd _ (ix_mem hi)
    have hiy : i < ys.length := by omega
    unfold nK at hk
    unfold Zu_L1 gK nK
    generalize ix xs (i : Int) = x at *
    rw [if_pos (lt_ hi), if_pos (inr_ hi), wi hl hi, hx, (markI_eq _ k hdi.loops (by omega)).1, bind_some', nm_bind]
    simp only [Int.toNat_natCast, ix_set hiy]
    rw [(markA_eq _ _ hdi.loads hdi.steps (by omega)).1, bind_some']
    simp only [nm_bind, Int.toNat_natCast, ix_set hiy, List.set_set]
    rw [wn (by omega), wn (by omega), (markI_eq _ _ hdi.store (by omega)).1, bind_some']
    simp only [nm_bind, Int.toNat_natCast, ix_set hiy, List.set_set]
    rw [wn (by omega), (markC_eq _ _ hdi.code (by omega)).1, bind_some']
    simp only [nm_bind, Int.toNat_natCast, ix_set hiy, List.set_set]
    rw [show k + x.Loops.length + cnt nA x.Loads + 1 + 1 + x.Store.Steps.length + 1 + 3 * x.Code.length = k + (x.Loops.length + cnt nA x.Loads + (2 + x.Store.Steps.length) + 1 + 3 * x.Code.length) by omega]) (fun ys k => by
    show Zu_L1 xs ys k (xs.length : Int) = _
    unfold Zu_L1; simp only [nlt_, Bool.false_eq_true, if_false]) k h
  have e : Zu xs (k : Int) = some (((k + cnt nK xs : Nat) : Int), ys) := by
    unfold Zu; rw [y1, bind_some']; rfl
  have em : mkK xs k = ys := by unfold mkK; rw [e]; rfl
  rw [em]
  refine ⟨e, ?_⟩
  unfold Z0c
  rw [y3 (fun s : Int × Int => Z0c_L1 ys s.1 s.2) (fun k i => (k, i)) (fun k i hi hk hz => by
    show Z0c_L1 ys (k : Int) (i : Int) = _
    have hdi := hd _ (ix_mem hi)
    unfold nK at hk
    unfold Z0c_L1 nK
    rw [if_pos (lt_ (by omega)), if_pos (inr_ (by omega)), hz, wi hl hi]
    generalize ix xs (i : Int) = x at *
    unfold gK
    simp only []
    rw [(markI_eq _ k hdi.loops (by omega)).2, bind_some', nonneg_]
    simp only [Bool.false_eq_true, if_false]
    rw [(markA_eq _ _ hdi.loads hdi.steps (by omega)).2, bind_some', nonneg_, wn (by omega), wn (by omega)]
    simp only [Bool.false_eq_true, if_false, bne_self_i]
    rw [(markI_eq _ _ hdi.store (by omega)).2, bind_some', nonneg_, wn (by omega)]
    simp only [Bool.false_eq_true, if_false, beq_self_eq_true, Bool.not_true]
    rw [(markC_eq _ _ hdi.code (by omega)).2, bind_some', nonneg_, show k + x.Loops.length + cnt nA x.Loads + 1 + 1 + x.Store.Steps.length + 1 + 3 * x.Code.length = k + (x.Loops.length + cnt nA x.Loads + (2 + x.Store.Steps.length) + 1 + 3 * x.Code.length) by omega]
    rfl) (fun k => by
    show Z0c_L1 ys k (xs.length : Int) = _
    rw [← y2]
    unfold Z0c_L1; simp only [nlt_, Bool.false_eq_true, if_false])]
  rfl
theorem cnt_le {α : Type} (n : α → Nat) (M : Nat) (xs : List α) (h : ∀ x ∈ xs, n x ≤ M) : cnt n xs ≤ xs.length * M := by
  induction xs with
  | nil => simp [cnt]
  | cons x t ih =>
    rw [cnt_cons, List.length_cons, Nat.succ_mul]
    have := h x (by simp)
    have := ih (fun y hy => h y (by simp [hy]))
    omega
theorem cnt_bd {α : Type} (n : α → Nat) (M : Nat) (xs : List α) (h : ∀ x ∈ xs, n x ≤ M) (hl : xs.length ≤ 1048576) : cnt n xs ≤ 1048576 * M := Nat.le_trans (cnt_le n M xs h) (Nat.mul_le_mul_right _ hl)
theorem sm_bounds (l : Nest) (h : Sm l) : 1 + l.Sizes.length + l.Ins.length + cnt nF l.Fixed + cnt nK l.Kernels + l.Outs.length ≤ BB := by
  have h1 := h.sizes
  have h2 := h.ins
  have h3 := h.outs
  have h4 := cnt_bd nF 1048577 l.Fixed (fun x hx => by have := h.data x hx; unfold nF; omega) h.fixed
  have h5 := cnt_bd nK 1099518967811 l.Kernels (fun x hx => by
    have k := h.ker hx
    have a := cnt_bd nA 1048578 x.Loads (fun a ha => by have := k.steps a ha; unfold nA; omega) k.loads
    have := k.loops
    have := k.store
    have := k.code
    unfold nK
    omega) h.kers
  unfold BB
  omega
theorem markN_eq (l : Nest) (h : Sm l) : ∃ (m : Nat) (r : (List Int) × (List Int) × (List Fix) × (List Kernel) × (List Int)), Z18 l 1 = some ((m : Int), r) ∧ Z1r ⟨r.1, r.2.1, r.2.2.1, r.2.2.2.1, r.2.2.2.2⟩ 1 = some (m : Int) := by
  have hb := sm_bounds l h
  have a1 := markI_eq l.Sizes 1 h.sizes (by omega)
  have a2 := markI_eq l.Ins (1 + l.Sizes.length) h.ins (by omega)
  have a3 := markF_eq l.Fixed (1 + l.Sizes.length + l.Ins.length) h.fixed h.data (by omega)
  have a4 := markK_eq l.Kernels (1 + l.Sizes.length + l.Ins.length + cnt nF l.Fixed) h.kers (fun k hk => h.ker hk) (by omega)
  have a5 := markI_eq l.Outs (1 + l.Sizes.length + l.Ins.length + cnt nF l.Fixed + cnt nK l.Kernels) h.outs (by omega)
  have e1 : ((1 : Nat) : Int) = 1 := rfl
  rw [e1] at a1
  refine ⟨1 + l.Sizes.length + l.Ins.length + cnt nF l.Fixed + cnt nK l.Kernels + l.Outs.length, (mkI l.Sizes 1, mkI l.Ins (1 + l.Sizes.length), mkF l.Fixed (1 + l.Sizes.length + l.Ins.length), mkK l.Kernels (1 + l.Sizes.length + l.Ins.length + cnt nF l.Fixed), mkI l.Outs (1 + l.Sizes.length + l.Ins.length + cnt nF l.Fixed + cnt nK l.Kernels)), ?_, ?_⟩
  · unfold Z18
    rw [a1.1, bind_some', a2.1, bind_some', a3.1, bind_some', a4.1, bind_some', a5.1, bind_some']
  · unfold Z1r
    simp only []
    rw [a1.2, bind_some', nonneg_, a2.2, bind_some', nonneg_, a3.2, bind_some', nonneg_, a4.2, bind_some', nonneg_, a5.2, bind_some', nonneg_]
    rfl
theorem sumN_len {α : Type} (n : α → Nat) (xs : List α) : xs.length ≤ sumN n xs := by unfold sumN; omega
theorem sumN_mem {α : Type} (n : α → Nat) {xs : List α} {x : α} (h : x ∈ xs) : n x ≤ sumN n xs := by
  have : n x ≤ (xs.map n).sum := by
    induction xs with
    | nil => cases h
    | cons y t ih =>
      rcases List.mem_cons.1 h with rfl | h
      · simp
      · have := ih h; simp; omega
  unfold sumN; omega
theorem sm_of_n {l : Nest} (h : nNest l ≤ 1048576) : Sm l := by
  unfold nNest at h
  have f1 := sumN_len nFix l.Fixed
  have k1 := sumN_len nKer l.Kernels
  have fk : ∀ f ∈ l.Fixed, f.Data.length ≤ 1048576 := fun f hf => by
    have := sumN_mem nFix hf
    unfold nFix at this
    have : f.Data.length ≤ sumN nFix l.Fixed := this
    omega
  have kk : ∀ k ∈ l.Kernels, nKer k ≤ 1048576 := fun k hk => by
    have := sumN_mem nKer hk
    omega
  refine ⟨by omega, by omega, by omega, by omega, by omega, fk, fun k hk => ?_, fun k hk => ?_, fun k hk a ha => ?_, fun k hk => ?_, fun k hk => ?_⟩
  · have := kk k hk; unfold nKer at this; omega
  · have := kk k hk; have := sumN_len nAcc k.Loads; unfold nKer at *; omega
  · have := kk k hk; have h2 := sumN_mem nAcc ha; unfold nKer at *; have h3 : a.Steps.length ≤ sumN nAcc k.Loads := h2; omega
  · have := kk k hk; unfold nKer nAcc at this; omega
  · have := kk k hk; unfold nKer at this; omega
theorem loop_seq {T R : Type} (n : Nat) (f : T → Option (T ⊕ R)) (st : Nat → T) (r : R) (h1 : ∀ k, k < n → f (st k) = some (.inl (st (k + 1)))) (h2 : f (st n) = some (.inr r)) : loopM f (st 0) = some r := by
  have key : ∀ (m k : Nat), k + m = n → loopM f (st k) = some r := by
    intro m
    induction m with
    | zero => intro k hk; have : k = n := by omega
              subst this; exact loopM_end h2
    | succ m ih => intro k hk; rw [loopM_next (h1 k (by omega))]; exact ih (k + 1) (by omega)
  exact key n 0 (by omega)
def cat {α β : Type} (g : Nat → α → List β) : List α → Nat → List β
  | [], _ => []
  | x :: t, k => g k x ++ cat g t (k + 1)
theorem cat_app {α β : Type} (g : Nat → α → List β) (xs ys : List α) (k : Nat) : cat g (xs ++ ys) k = cat g xs k ++ cat g ys (k + xs.length) := by
  induction xs generalizing k with
  | nil => simp [cat]
  | cons x t ih => simp only [List.cons_append, cat, ih, List.append_assoc, List.length_cons]; rw [show k + 1 + t.length = k + (t.length + 1) by omega]
theorem cat_take {α β : Type} [Inhabited α] (g : Nat → α → List β) (xs : List α) (k : Nat) (h : k < xs.length) : cat g (xs.take (k + 1)) 0 = cat g (xs.take k) 0 ++ g k (ix xs (k : Int)) := by
  rw [List.take_succ_eq_append_getElem h, cat_app, List.length_take, Nat.min_eq_left (by omega), ix_at h]
  simp [cat]
theorem cat_le {α β : Type} (g : Nat → α → List β) (M : Nat) (xs : List α) (k : Nat) (h : ∀ k x, x ∈ xs → (g k x).length ≤ M) : (cat g xs k).length ≤ xs.length * M := by
  induction xs generalizing k with
  | nil => simp [cat]
  | cons x t ih =>
    simp only [cat, List.length_append, List.length_cons, Nat.succ_mul]
    have := h k x (by simp)
    have := ih (k + 1) (fun k y hy => h k y (by simp [hy]))
    omega
theorem cat_loop {α β T R : Type} [Inhabited α] (xs : List α) (g : Nat → α → List β) (M : Nat) (f : T → Option (T ⊕ R)) (mk : List β → Int → T) (a0 : List β) (r : R)
    (hM : ∀ k x, x ∈ xs → (g k x).length ≤ M)
    (hf : ∀ (ys : List β) (k : Nat), k < xs.length → ys.length ≤ a0.length + xs.length * M → f (mk ys (k : Int)) = some (.inl (mk (ys ++ g k (ix xs (k : Int))) ((k + 1 : Nat) : Int))))
    (hl : f (mk (a0 ++ cat g xs 0) (xs.length : Int)) = some (.inr r)) : loopM f (mk a0 0) = some r := by
  have h0 : mk a0 0 = (fun k : Nat => mk (a0 ++ cat g (xs.take k) 0) (k : Int)) 0 := by simp [cat]
  rw [h0]
  refine loop_seq xs.length f (fun k : Nat => mk (a0 ++ cat g (xs.take k) 0) (k : Int)) r (fun k hk => ?_) ?_
  · show f (mk (a0 ++ cat g (xs.take k) 0) (k : Int)) = some (.inl (mk (a0 ++ cat g (xs.take (k + 1)) 0) ((k + 1 : Nat) : Int)))
    rw [hf _ k hk, cat_take g xs k hk, List.append_assoc]
    have := cat_le g M (xs.take k) 0 (fun j x hx => hM j x (List.mem_of_mem_take hx))
    rw [List.length_take, Nat.min_eq_left (by omega)] at this
    have := Nat.mul_le_mul_right M (Nat.le_of_lt hk)
    rw [List.length_append]; omega
  · show f (mk (a0 ++ cat g (xs.take xs.length) 0) (xs.length : Int)) = _
    rw [List.take_length]; exact hl
def givB (l : Nest) (b : Int) : Bool := (l.Fixed.any fun f => f.Buffer == b) || decide (b ∈ l.Ins)
structure NB (l : Nest) : Prop where
  sizes : l.Sizes.length ≤ 200
  ins : l.Ins.length ≤ 40
  outs : l.Outs.length ≤ 40
  kers : l.Kernels.length ≤ 400
  fixed : l.Fixed.length ≤ 1048576
  sz : ∀ x ∈ l.Sizes, 0 ≤ x ∧ x ≤ 4096
  ker : ∀ k ∈ l.Kernels, kerB l.Sizes k = true
  giv : ∃ r, Z9 l = some r ∧ r.1.length = l.Sizes.length ∧ ∀ j : Nat, j < l.Sizes.length → ix r.1 (j : Int) = givB l (j : Int)
theorem givI_app {bs g r : List Int} (h : givI bs g = some r) : r = g ++ bs := by
  induction bs generalizing g with
  | nil => unfold givI at h; injection h with h; simp [h]
  | cons b t ih =>
    unfold givI at h
    split at h
    · cases h
    · rw [ih h, List.append_assoc]; rfl
theorem givF_app {sizes : List Int} {fs : List Fix} {g r : List Int} (h : givF sizes fs g = some r) : r = g ++ fs.map (·.Buffer) := by
  induction fs generalizing g with
  | nil => unfold givF at h; injection h with h; simp [h]
  | cons b t ih =>
    unfold givF at h
    split at h
    · rw [ih h, List.append_assoc]; rfl
    · cases h
theorem nb_of {l : Nest} (h : nestB l = true) (hs : Sm l) : NB l := by
  unfold nestB at h
  simp only [Bool.and_eq_true, decide_eq_true_eq] at h
  obtain ⟨⟨⟨⟨⟨⟨⟨h1, h2⟩, h3⟩, h4⟩, h5⟩, h6⟩, h7⟩, h8⟩ := h
  have hz : ∀ x ∈ l.Sizes, 0 ≤ x ∧ x ≤ 4096 := fun x hx => by
    have := List.all_eq_true.1 h7 x hx
    unfold szB' at this
    simpa using this
  have hf := hs.fixed
  have hd := hs.data
  have hb : l.Ins.length < big ∧ l.Fixed.length < big ∧ ∀ f ∈ l.Fixed, f.Data.length < big := by unfold big; exact ⟨by omega, by omega, fun f hm => by have := hd f hm; omega⟩
  obtain ⟨r, e, q⟩ := given_eq l h1 hb.1 hb.2.1 hb.2.2
  rw [givI_eq, if_pos (show (l.Ins.all fun x => decide (0 ≤ x) && decide (x < (l.Sizes.length : Int))) = true from h5)] at q
  cases hG : (givI l.Ins []).bind (givF l.Sizes l.Fixed) with
  | none => rw [hG] at h8; cases h8
  | some gl =>
    rw [hG] at h8 q
    simp only at h8 q
    cases hI : givI l.Ins [] with
    | none => rw [hI] at hG; cases hG
    | some g1 =>
      rw [hI] at hG
      have e1 := givI_app hI
      have e2 := givF_app (show givF l.Sizes l.Fixed g1 = some gl from hG)
      have eg : gl = l.Ins ++ l.Fixed.map (·.Buffer) := by rw [e2, e1]; simp
      refine ⟨h1, h2, h3, h4, hf, hz, ?_, r, e, q.2.1, fun j hj => ?_⟩
      · cases hS : sumK l.Sizes gl l.Kernels 0 with
        | none => rw [hS] at h8; cases h8
        | some s =>
          have key : ∀ (ks : List Kernel) (a b : Int), sumK l.Sizes gl ks a = some b → ∀ k ∈ ks, kerB l.Sizes k = true := by
            intro ks
            induction ks with
            | nil => intro a b _ k hk; cases hk
            | cons k ks ih =>
              intro a b h k' hk'
              unfold sumK at h
              split at h
              · rename_i hc
                rcases List.mem_cons.1 hk' with rfl | hk'
                · exact hc.1
                · exact ih _ _ h k' hk'
              · cases h
          exact key _ _ _ hS
      · rw [q.2.2 j hj, eg]
        unfold givB
        rw [Bool.eq_iff_iff]
        simp only [decide_eq_true_eq, List.mem_append, List.mem_map, Bool.or_eq_true, List.any_eq_true, beq_iff_eq]
        exact Or.comm
def touch (k : Kernel) (b : Int) : Bool := (k.Store.Buffer == b) || hasB k b
def scanL (b : Int) : List Kernel → Nat → Int × Int → Int × Int
  | [], _, s => s
  | k :: ks, j, s => scanL b ks (j + 1) (if touch k b = true then ((j : Int), if s.2 < 0 then (j : Int) else s.2) else s)
theorem goI_scan (b : Int) (ks : List Kernel) (j : Nat) (s : Int × Int) : goI (S := Int × Int) (R := Int × Int) (fun s j k => .inl (if touch k b = true then ((j : Int), if s.2 < 0 then (j : Int) else s.2) else s)) (fun s => s) ks j s = scanL b ks j s := by
  induction ks generalizing j s with
  | nil => rfl
  | cons k t ih => unfold goI scanL; exact ih _ _
theorem scan_max (b : Int) (ks : List Kernel) (j : Nat) (t f : Int) : (scanL b ks j (if 0 > t then 0 else t, f)).2 = (scanL b ks j (t, f)).2 ∧ (scanL b ks j (if 0 > t then 0 else t, f)).1 = if 0 > (scanL b ks j (t, f)).1 then 0 else (scanL b ks j (t, f)).1 := by
  induction ks generalizing j t f with
  | nil => exact ⟨rfl, rfl⟩
  | cons k ks ih =>
    unfold scanL
    cases touch k b with
    | true =>
      simp only [if_true]
      have := ih (j + 1) (j : Int) (if f < 0 then (j : Int) else f)
      rw [if_neg (by omega)] at this
      exact ⟨trivial, this.2⟩
    | false => simp only [Bool.false_eq_true, if_false]; exact ih (j + 1) t f
theorem scan_bd (b : Int) (ks : List Kernel) (j : Nat) (s : Int × Int) (n : Int) (hn : (j : Int) + ks.length ≤ n) (h1 : -1 ≤ s.1 ∧ s.1 < n) (h2 : -1 ≤ s.2 ∧ s.2 < n) : (-1 ≤ (scanL b ks j s).1 ∧ (scanL b ks j s).1 < n) ∧ (-1 ≤ (scanL b ks j s).2 ∧ (scanL b ks j s).2 < n) := by
  induction ks generalizing j s with
  | nil => exact ⟨h1, h2⟩
  | cons k t ih =>
    simp only [List.length_cons] at hn
    unfold scanL
    refine ih (j + 1) _ (by omega) ?_ ?_ <;> (split <;> (try split) <;> (try simp only) <;> omega)
theorem touches_s (k : Kernel) (b : Int) (h : k.Loads.length ≤ 30) : Z1v k b = some (touch k b) := by
  unfold Z1v touch
  cases hc : (k.Store.Buffer == b) with
  | true =>
    rw [show (!true) = false from rfl, gc_f, bind_some']; simp
  | false =>
    rw [show (!false) = true from rfl, gc_t, uses_eq k b (by omega), bind_some']
    congr 1
    have := usesF_nil b k.Loads 0
    unfold hasB
    rw [Bool.false_or, Bool.false_or, Bool.eq_iff_iff, decide_eq_true_eq]
    cases ha : k.Loads.any fun a => a.Buffer == b with
    | true => rw [ha] at this; constructor
              · intro _; rfl
              · intro _; have : ¬ (usesF b k.Loads 0).length = 0 := fun e => by have := this.1 e; cases this
                omega
    | false => rw [ha] at this; constructor
               · intro e; have := this.2 rfl; omega
               · intro e; cases e
def lifeP (l : Nest) (b : Int) : Life × Bool :=
  (⟨b, ix l.Sizes b, if (!givB l b && decide ((scanL b l.Kernels 0 (-1, -1)).2 > 0)) = true then (scanL b l.Kernels 0 (-1, -1)).2 else 0,
    if decide (b ∈ l.Outs) = true then (l.Kernels.length : Int) else if 0 > (scanL b l.Kernels 0 (-1, -1)).1 then 0 else (scanL b l.Kernels 0 (-1, -1)).1⟩,
   decide (ix l.Sizes b > 0) && ((givB l b || decide (b ∈ l.Outs)) || decide ((scanL b l.Kernels 0 (-1, -1)).2 ≥ 0)))
theorem given_s {l : Nest} (h : NB l) (b : Int) : Zx l b = some (givB l b) := by
  have hf := h.fixed
  have hi := h.ins
  unfold Zx givB
  have e : loopM (fun s : Int => Zx_L1 l b s) 0 = some (if (l.Fixed.all fun f => !(f.Buffer == b)) = true then .inr () else .inl true) := by
    refine loop_all l.Fixed (fun s : Int => Zx_L1 l b s) (fun i => i) (fun f => !(f.Buffer == b)) (.inl true) (.inr ()) (fun k hk => ?_) ?_
    · show Zx_L1 l b (k : Int) = _
      unfold Zx_L1
      rw [if_pos (lt_ hk), if_pos (inr_ hk), w64k (by unfold big; omega)]
      cases (ix l.Fixed (k : Int)).Buffer == b <;> rfl
    · show Zx_L1 l b (l.Fixed.length : Int) = _
      unfold Zx_L1; rw [if_neg (by rw [nlt_]; decide)]
  rw [e, bind_some']
  have ha : (l.Fixed.all fun f => !(f.Buffer == b)) = !(l.Fixed.any fun f => f.Buffer == b) := by
    rw [Bool.eq_iff_iff]; simp
  rw [ha]
  cases l.Fixed.any fun f => f.Buffer == b with
  | true => rfl
  | false =>
    simp only [Bool.not_false, if_true, Bool.false_or]
    unfold Zx_J1
    rw [l7Has_eq _ _ (by unfold big; omega)]; rfl
theorem ker_loads {l : Nest} (h : NB l) {k : Kernel} (hk : k ∈ l.Kernels) : k.Loads.length ≤ 30 := (ki_of_ker (h.ker k hk)).loads
theorem life_s {l : Nest} (h : NB l) (b : Nat) (hb : b < l.Sizes.length) : Z7 l (b : Int) = some (lifeP l (b : Int)) := by
  have hk := h.kers
  have ho := h.outs
  unfold Z7
  rw [if_pos (inr_ hb)]
  have e : loopM (fun s : Int × Int × Int => Z7_L1 l (b : Int) s.1 s.2.1 s.2.2) ((0 : Int), (-1 : Int), (0 : Int)) = some (scanL (b : Int) l.Kernels 0 (0, -1)) := by
    rw [loop_goI (S := Int × Int) l.Kernels (fun _ _ => True) (fun s : Int × Int × Int => Z7_L1 l (b : Int) s.1 s.2.1 s.2.2) (fun s i => (s.1, s.2, i)) (fun s j k => .inl (if touch k (b : Int) = true then ((j : Int), if s.2 < 0 then (j : Int) else s.2) else s)) (fun s => s) ?_ (fun _ _ _ _ _ _ => trivial) ?_ (0, -1) trivial, goI_scan]
    · intro s k _ hk'
      show Z7_L1 l (b : Int) s.1 s.2 (k : Int) = _
      unfold Z7_L1 Z7_J3
      rw [if_pos (lt_ hk'), if_pos (inr_ hk'), touches_s _ _ (ker_loads h (ix_mem hk')), bind_some', w64k (by unfold big; omega)]
      cases touch (ix l.Kernels (k : Int)) (b : Int) with
      | false => rfl
      | true =>
        simp only [if_true, decide_eq_true_eq]
        split <;> rfl
    · intro s _
      show Z7_L1 l (b : Int) s.1 s.2 (l.Kernels.length : Int) = _
      unfold Z7_L1; rw [if_neg (by rw [nlt_]; decide)]
  rw [e, bind_some']
  have hm := scan_max (b : Int) l.Kernels 0 (-1) (-1)
  rw [if_pos (by decide)] at hm
  unfold Z7_J4
  rw [l7Has_eq _ _ (by unfold big; omega), bind_some', given_s h, bind_some', hm.1, hm.2]
  unfold Z7_J5 Z7_J6 lifeP
  cases decide ((b : Int) ∈ l.Outs) <;> cases givB l (b : Int) <;> cases decide ((scanL (b : Int) l.Kernels 0 (-1, -1)).2 > 0) <;> simp
def liveG (l : Nest) (b : Nat) (_ : Int) : List Life := if (lifeP l (b : Int)).2 = true then [(lifeP l (b : Int)).1] else []
def livesP (l : Nest) : List Life := cat (liveG l) l.Sizes 0
theorem liveG_len (l : Nest) (b : Nat) (x : Int) : (liveG l b x).length ≤ 1 := by unfold liveG; split <;> simp
theorem lives_len {l : Nest} (h : NB l) : (livesP l).length ≤ 200 := by
  have := cat_le (liveG l) 1 l.Sizes 0 (fun b x _ => liveG_len l b x)
  have := h.sizes
  unfold livesP; omega
theorem lives_s {l : Nest} (hn : Z3 l = some true) (h : NB l) : Zn l = some (livesP l) := by
  have hz := h.sizes
  unfold Zn
  rw [hn, bind_some']
  simp only [Bool.not_true, Bool.false_eq_true, if_false]
  have e : loopM (fun s : (List Life) × Int => Zn_L1 l s.1 s.2) ([], 0) = some (livesP l) := by
    refine cat_loop l.Sizes (liveG l) 1 (fun s : (List Life) × Int => Zn_L1 l s.1 s.2) (fun s i => (s, i)) [] _ (fun b x _ => liveG_len l b x) (fun ys k hk hy => ?_) ?_
    · show Zn_L1 l ys (k : Int) = _
      simp only [List.length_nil] at hy
      unfold Zn_L1 Zn_J2 liveG
      rw [if_pos (lt_ hk), life_s h k hk, bind_some', w64k (by unfold big; omega)]
      cases (lifeP l (k : Int)).2 with
      | false => simp
      | true => simp only [if_true]; rw [if_pos (by simp only [List.length_singleton]; omega)]
    · show Zn_L1 l _ (l.Sizes.length : Int) = _
      unfold Zn_L1; rw [if_neg (by rw [nlt_]; decide)]; rfl
  rw [e]; rfl
theorem lives_i {l : Nest} (h : NB l) : Z2 l = some (livesP l) := by
  have hz := h.sizes
  have hk := h.kers
  have ho := h.outs
  obtain ⟨r, e1, e2, e3⟩ := h.giv
  unfold Z2
  rw [e1, bind_some']
  have e : loopM (fun s : (List Life) × Int => Z2_L1 l r s.1 s.2) ([], 0) = some (livesP l) := by
    refine cat_loop l.Sizes (liveG l) 1 (fun s : (List Life) × Int => Z2_L1 l r s.1 s.2) (fun s i => (s, i)) [] _ (fun b x _ => liveG_len l b x) (fun ys b hb hy => ?_) ?_
    · show Z2_L1 l r ys (b : Int) = _
      simp only [List.length_nil] at hy
      have es : loopM (fun s : Int × Int × Int => Z2_L2 l (b : Int) s.1 s.2.1 s.2.2) ((-1 : Int), (-1 : Int), (0 : Int)) = some ((scanL (b : Int) l.Kernels 0 (-1, -1)).2, (scanL (b : Int) l.Kernels 0 (-1, -1)).1) := by
        rw [loop_goI (S := Int × Int) l.Kernels (fun _ _ => True) (fun s : Int × Int × Int => Z2_L2 l (b : Int) s.1 s.2.1 s.2.2) (fun s i => (s.2, s.1, i)) (fun s j k => .inl (if touch k (b : Int) = true then ((j : Int), if s.2 < 0 then (j : Int) else s.2) else s)) (fun s => (s.2, s.1)) ?_ (fun _ _ _ _ _ _ => trivial) ?_ (-1, -1) trivial]
        · have : ∀ (ks : List Kernel) (j : Nat) (s : Int × Int), goI (S := Int × Int) (R := Int × Int) (fun s j k => .inl (if touch k (b : Int) = true then ((j : Int), if s.2 < 0 then (j : Int) else s.2) else s)) (fun s => (s.2, s.1)) ks j s = ((scanL (b : Int) ks j s).2, (scanL (b : Int) ks j s).1) := by
            intro ks
            induction ks with
            | nil => intro j s; rfl
            | cons k t ih => intro j s; unfold goI scanL; exact ih _ _
          rw [this]
        · intro s k _ hk'
          show Z2_L2 l (b : Int) s.2 s.1 (k : Int) = _
          obtain ⟨n, g1, g2⟩ := loadsOf_eq (ix l.Kernels (k : Int)) (b : Int) (by have := ker_loads h (ix_mem hk'); omega)
          unfold Z2_L2 Z2_J11 Z2_J12 touch
          rw [if_pos (lt_ hk'), if_pos (inr_ hk'), w64k (by unfold big; omega)]
          cases hc : (ix l.Kernels (k : Int)).Store.Buffer == (b : Int) with
          | true =>
            rw [show (!true) = false from rfl, gc_f, bind_some']
            simp only [Bool.true_or, if_true, decide_eq_true_eq]
            split <;> rfl
          | false =>
            rw [show (!false) = true from rfl, gc_t, g1, bind_some', g2, Bool.false_or]
            cases hasB (ix l.Kernels (k : Int)) (b : Int) with
            | false => rfl
            | true =>
              simp only [if_true, decide_eq_true_eq]
              split <;> rfl
        · intro s _
          show Z2_L2 l (b : Int) s.2 s.1 (l.Kernels.length : Int) = _
          unfold Z2_L2; rw [if_neg (by rw [nlt_]; decide)]
      have hsz := h.sz _ (ix_mem hb)
      have hbd := scan_bd (b : Int) l.Kernels 0 (-1, -1) (l.Kernels.length : Int) (by omega) (by simp only; omega) (by simp only; omega)
      unfold Z2_L1
      rw [if_pos (lt_ hb), if_pos (inr_ hb), es, bind_some']
      unfold Z2_J13
      rw [contains_eq _ _ (by unfold big; omega), bind_some', if_pos (fun _ _ => by rw [e2]; exact inr_ hb), e3 b hb]
      unfold Z2_J16 Z2_J14 Z2_J15 Z2_J16
      rw [w64k (by unfold big; omega)]
      have hlen : ∀ v : Life, ys.length + ([v] : List Life).length ≤ 4398046511104 := fun v => by simp only [List.length_singleton]; omega
      simp only [if_pos (hlen _)]
      have hr : 0 ≤ (b : Int) ∧ (b : Int) < (r.1.length : Int) := by rw [e2]; exact inr_ hb
      unfold liveG lifeP
      simp only []
      generalize scanL (b : Int) l.Kernels 0 (-1, -1) = sc at hbd ⊢
      obtain ⟨t, f⟩ := sc
      simp only at hbd ⊢
      generalize hS : ix l.Sizes (b : Int) = S at hsz ⊢
      by_cases hS0 : S = 0
      · subst hS0; simp
      have q1 : (S == 0) = false := by simpa using hS0
      have q2 : decide (S > 0) = true := by simpa using by omega
      simp only [q1, q2, Bool.false_or, Bool.true_and]
      rw [if_pos hr]
      by_cases hf : f < 0
      · have hf' : f = -1 := by omega
        subst hf'
        cases givB l (b : Int) <;> cases decide ((b : Int) ∈ l.Outs) <;> simp <;> omega
      · have q3 : decide (f < 0) = false := by simpa using by omega
        have q4 : decide (f ≥ 0) = true := by simpa using by omega
        simp only [q3, q4, Bool.false_and, Bool.or_true, if_true, Bool.false_eq_true, if_false]
        by_cases hf1 : f > 0
        · have q5 : decide (f > 0) = true := by simpa using hf1
          have q6 : ¬ 0 > f := by omega
          cases givB l (b : Int) <;> cases decide ((b : Int) ∈ l.Outs) <;> simp [q5, q6] <;> omega
        · have : f = 0 := by omega
          subst this
          cases givB l (b : Int) <;> cases decide ((b : Int) ∈ l.Outs) <;> simp <;> omega
    · show Z2_L1 l r _ (l.Sizes.length : Int) = _
      unfold Z2_L1; rw [if_neg (by rw [nlt_]; decide)]; rfl
  rw [e]; rfl
def okL (x : Life) : Bool := !(((((decide (x.Size < (1 : Int))) || (decide (x.Size > (4096 : Int)))) || (decide (x.From < (0 : Int)))) || (decide (x.From > x.To))) || (decide (x.To > (400 : Int))))
theorem l12Ok_s (ls : List Life) (h : ls.length ≤ 1048576) : Z09 ls = some (decide (ls.length ≤ 200) && ls.all okL) := by
  unfold Z09
  by_cases h2 : ls.length ≤ 200
  · rw [if_neg (by simpa using by omega), loop_all ls (fun s : Int => Z09_L1 ls s) (fun i => i) okL (.inl false) (.inr ()) (fun k hk => ?_) ?_]
    · rw [bind_some', decide_eq_true h2, Bool.true_and]
      cases ls.all okL <;> rfl
    · show Z09_L1 ls (ls.length : Int) = _
      unfold Z09_L1; rw [if_neg (by rw [nlt_]; decide)]
    · show Z09_L1 ls (k : Int) = _
      unfold Z09_L1 okL
      rw [if_pos (lt_ hk), if_pos (inr_ hk), w64k (by unfold big; omega)]
      split <;> rename_i q <;> simp [q]
  · rw [if_pos (by simpa using by omega), decide_eq_false h2]; rfl
theorem livesOk_i (ls : List Life) (h : ls.length ≤ 1048576) : Z00 ls = some (decide (ls.length ≤ 200) && ls.all okL) := by
  unfold Z00 Z00_J1
  rw [loop_all ls (fun s : Int => Z00_L1 ls s) (fun i => i) okL (.inl false) (.inr ()) (fun k hk => ?_) ?_]
  · rw [bind_some']
    have e : decide ((ls.length : Int) ≤ 200) = decide (ls.length ≤ 200) := by rw [Bool.eq_iff_iff]; simp; omega
    cases ls.all okL <;> simp [e]
  · show Z00_L1 ls (ls.length : Int) = _
    unfold Z00_L1; rw [if_neg (by rw [nlt_]; decide)]
  · show Z00_L1 ls (k : Int) = _
    unfold Z00_L1 okL
    rw [if_pos (lt_ hk), if_pos (inr_ hk), w64k (by unfold big; omega)]
    split <;> rename_i q <;> simp [q]
theorem cat_mem {α β : Type} {g : Nat → α → List β} {xs : List α} {k : Nat} {y : β} (h : y ∈ cat g xs k) : ∃ (j : Nat) (hj : j < xs.length), y ∈ g (k + j) xs[j] := by
  induction xs generalizing k with
  | nil => cases h
  | cons x t ih =>
    unfold cat at h
    rcases List.mem_append.1 h with h | h
    · exact ⟨0, by simp, h⟩
    · obtain ⟨j, hj, q⟩ := ih h
      exact ⟨j + 1, by simpa using hj, by simpa [show k + (j + 1) = k + 1 + j by omega] using q⟩
theorem lives_mem {l : Nest} {a : Life} (h : a ∈ livesP l) : ∃ b : Nat, b < l.Sizes.length ∧ a = (lifeP l (b : Int)).1 ∧ (lifeP l (b : Int)).2 = true := by
  obtain ⟨j, hj, q⟩ := cat_mem h
  unfold liveG at q
  rw [Nat.zero_add] at q
  split at q
  · exact ⟨j, hj, List.mem_singleton.1 q, by assumption⟩
  · cases q
theorem sm_bounds2 (l : Nest) (h : Sm l) : 1 + l.Sizes.length + l.Ins.length + cnt nF l.Fixed + cnt nK l.Kernels + l.Outs.length + 1048576 ≤ BB := by
  have h1 := h.sizes
  have h2 := h.ins
  have h3 := h.outs
  have h4 := cnt_bd nF 1048577 l.Fixed (fun x hx => by have := h.data x hx; unfold nF; omega) h.fixed
  have h5 := cnt_bd nK 1099518967811 l.Kernels (fun x hx => by
    have k := h.ker hx
    have a := cnt_bd nA 1048578 x.Loads (fun a ha => by have := k.steps a ha; unfold nA; omega) k.loads
    have := k.loops
    have := k.store
    have := k.code
    unfold nK
    omega) h.kers
  unfold BB
  omega
theorem eqPlan_rfl (p : Plan) (h : Sm p.Nest) (ho : p.Offsets.length ≤ 1048576) : Z14 p p = some true := by
  unfold Z14
  rw [eqNest_rfl _ h, bind_some', eqI_rfl _ ho, bind_some', bne_self_i]; rfl
end Go.Proofs.YtkfgngcfcoplpaaGreat
