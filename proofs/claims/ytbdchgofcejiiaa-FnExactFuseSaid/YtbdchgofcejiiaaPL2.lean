import Derived.Test.YtbdchgofcejiiaaFuF
import Derived.Test.YtbdchgofcejiiaaPL1
set_option linter.unusedVariables false
set_option linter.unusedSimpArgs false
namespace Go.Proofs.Ytbdchgofcejiiaa
open Go Go.Pg
def lim : Nat := 9223372036854775807
def szR (n : Nat) (left : Int) : Int := if left < (n : Int) then -1 else left - n
def nFix (x : Fix) : Nat := x.Data.length
def nAcc (x : Access) : Nat := x.Steps.length
def sumN {α : Type} (n : α → Nat) (xs : List α) : Nat := xs.length + (xs.map n).sum
def nKer (x : Kernel) : Nat := x.Loops.length + sumN nAcc x.Loads + nAcc x.Store + x.Code.length
def nNest (x : Nest) : Nat := x.Sizes.length + x.Ins.length + sumN nFix x.Fixed + sumN nKer x.Kernels + x.Outs.length
theorem szR_add {a b : Nat} {left : Int} (h0 : 0 ≤ left) : szR (a + b) left = if szR a left < 0 then -1 else szR b (szR a left) := by
  unfold szR
  (repeat' split) <;> omega
theorem szR_le {a : Nat} {left : Int} (h0 : 0 ≤ left) (h : ¬ szR a left < 0) : 0 ≤ szR a left ∧ szR a left ≤ left ∧ szR a left = left - a := by
  unfold szR at *
  split at h <;> rename_i q
  · exact absurd (by decide) h
  · rw [if_neg q]; omega
theorem sz_flat {n : Nat} {left : Int} (hn : n ≤ lim) (h0 : 0 ≤ left) (h1 : left ≤ 1048576) :
    (if (decide ((w64 (left - (n : Int))) < (0 : Int))) = true then (some (-1 : Int)) else (some (w64 (left - (n : Int))))) = some (szR n left) := by
  unfold lim at hn
  rw [w64_id (by omega) (by omega)]
  unfold szR
  by_cases h : left < (n : Int)
  · rw [if_pos (by simp; omega), if_pos h]
  · rw [if_neg (by simp; omega), if_neg h]
theorem sz_loop {α : Type} [Inhabited α] (xs : List α) (n : α → Nat) (hx : xs.length < big) (g : α → Int → Option Int) (f : Int × Int → Option ((Int × Int) ⊕ (Int ⊕ Int)))
    (hg : ∀ x ∈ xs, ∀ left : Int, 0 ≤ left → left ≤ 1048576 → g x left = some (szR (n x) left))
    (hf : ∀ left i, f (left, i) = if (decide (i < (xs.length : Int))) = true then (if (0 ≤ i ∧ i < (xs.length : Int)) then (g (ix xs i) left).bind fun (r : Int) => if (decide (r < (0 : Int))) = true then (some (.inr (.inl (-1 : Int)))) else (some (.inl (r, (w64 (i + (1 : Int)))))) else none) else (some (.inr (.inr left))))
    (left : Int) (h0 : 0 ≤ left) (h1 : left ≤ 1048576) :
    ((loopM f (left, 0)).bind fun e => match e with | .inl e => some e | .inr e => some e) = some (szR ((xs.map n).sum) left) := by
  rw [loop_goI (S := Int) xs (fun _ s => 0 ≤ s ∧ s ≤ 1048576) f (fun s i => (s, i)) (fun s _ x => if szR (n x) s < 0 then .inr (.inl (-1)) else .inl (szR (n x) s)) (fun s => .inr s) ?_ ?_ ?_ left ⟨h0, h1⟩]
  · rw [bind_some']
    clear hf hx
    generalize 0 = k
    induction xs generalizing left k with
    | nil => show some left = some (szR 0 left); unfold szR; rw [if_neg (by omega)]; congr 1; simp
    | cons x xs ih =>
      unfold goI
      rw [List.map_cons, List.sum_cons, szR_add h0]
      by_cases h : szR (n x) left < 0
      · simp only [h, if_true]
      · obtain ⟨q1, q2, _⟩ := szR_le h0 h
        simp only [h, if_false]
        exact ih (fun y hy => hg y (by simp [hy])) _ q1 (by omega) _
  · rintro s k ⟨i0, i1⟩ hk
    rw [hf, if_pos (by simpa using hk), if_pos (by omega), hg _ (ix_mem hk) s i0 i1, bind_some', w64k (by omega)]
    by_cases h : szR (n (ix xs (k : Int))) s < 0
    · simp [h]
    · simp [h]
  · rintro s k s' ⟨i0, i1⟩ hk hs
    split at hs
    · cases hs
    · rename_i h
      obtain ⟨q1, q2, _⟩ := szR_le i0 h
      injection hs with hs
      subst hs
      exact ⟨q1, by omega⟩
  · rintro s ⟨i0, i1⟩
    rw [hf, if_neg (by simp)]
def CapI (xs : List Int) : Prop := xs.length ≤ lim
def CapA (x : Access) : Prop := x.Steps.length ≤ lim
def CapL {α : Type} (p : α → Prop) (xs : List α) : Prop := xs.length ≤ lim ∧ ∀ x ∈ xs, p x
def CapF (x : Fix) : Prop := x.Data.length ≤ lim
def CapK (x : Kernel) : Prop := x.Loops.length ≤ lim ∧ CapL CapA x.Loads ∧ CapA x.Store ∧ x.Code.length ≤ lim
def CapN (x : Nest) : Prop := x.Sizes.length ≤ lim ∧ x.Ins.length ≤ lim ∧ CapL CapF x.Fixed ∧ CapL CapK x.Kernels ∧ x.Outs.length ≤ lim
theorem szIntS_eq {xs : List Int} {left : Int} (hn : xs.length ≤ lim) (h0 : 0 ≤ left) (h1 : left ≤ 1048576) : laws_szIntS xs left = some (szR xs.length left) := sz_flat hn h0 h1
theorem szCalcS_eq {xs : List Calc} {left : Int} (hn : xs.length ≤ lim) (h0 : 0 ≤ left) (h1 : left ≤ 1048576) : laws_szCalcS xs left = some (szR xs.length left) := sz_flat hn h0 h1
theorem ifneg {r : Int} (h : r < 0 → r = -1) : (if (decide (r < (0 : Int))) = true then (some (-1 : Int)) else (some r)) = some r := by
  by_cases q : r < 0
  · rw [if_pos (by simpa using q), h q]
  · rw [if_neg (by simpa using q)]
theorem szR_neg {a : Nat} {left : Int} (h0 : 0 ≤ left) (h : szR a left < 0) : szR a left = -1 := by
  unfold szR at *
  split
  · rfl
  · rename_i q; rw [if_neg q] at h; omega
theorem szFix_eq {x : Fix} {left : Int} (hc : CapF x) (h0 : 0 ≤ left) (h1 : left ≤ 1048576) : laws_szFix x left = some (szR (nFix x) left) := by
  unfold laws_szFix
  rw [szIntS_eq hc h0 h1, bind_some', ifneg (szR_neg h0)]
  rfl
theorem szAcc_eq {x : Access} {left : Int} (hc : CapA x) (h0 : 0 ≤ left) (h1 : left ≤ 1048576) : laws_szAccess x left = some (szR (nAcc x) left) := by
  unfold laws_szAccess
  rw [szIntS_eq hc h0 h1, bind_some', ifneg (szR_neg h0)]
  rfl
theorem sz_list {α : Type} [Inhabited α] {xs : List α} {n : α → Nat} {left : Int} {x : Int → Option Int} (hn : xs.length ≤ lim) (h0 : 0 ≤ left) (h1 : left ≤ 1048576) (hx : ¬ szR xs.length left < 0 → x (szR xs.length left) = some (szR ((xs.map n).sum) (szR xs.length left))) :
    (if (decide ((w64 (left - (xs.length : Int))) < (0 : Int))) = true then (some (-1 : Int)) else x (w64 (left - (xs.length : Int)))) = some (szR (sumN n xs) left) := by
  have hn' := hn
  unfold lim at hn'
  unfold sumN
  rw [szR_add h0]
  have e : w64 (left - (xs.length : Int)) = left - xs.length := w64_id (by omega) (by omega)
  rw [e]
  by_cases h : left < (xs.length : Int)
  · rw [if_pos (by simp; omega), if_pos (by unfold szR; rw [if_pos h]; omega)]
  · have e2 : szR xs.length left = left - xs.length := by unfold szR; rw [if_neg h]
    rw [if_neg (by simp; omega), if_neg (by rw [e2]; omega)]
    have := hx (by rw [e2]; omega)
    rw [e2] at this ⊢
    exact this
theorem szFixS_eq {xs : List Fix} {left : Int} (hc : CapL CapF xs) (h0 : 0 ≤ left) (h1 : left ≤ 1048576) : laws_szFixS xs left = some (szR (sumN nFix xs) left) := by
  unfold laws_szFixS
  refine sz_list (x := fun l => (loopM (fun s : Int × Int => laws_szFixS_L1 xs s.1 s.2) (l, (0 : Int))).bind fun e => match e with | .inl e => some e | .inr e => laws_szFixS_J1 e) hc.1 h0 h1 (fun h => ?_)
  obtain ⟨q1, q2, q3⟩ := szR_le h0 h
  exact sz_loop xs nFix (by unfold big; omega) laws_szFix _ (fun x hx left => szFix_eq (hc.2 x hx)) (fun _ _ => rfl) _ q1 (by omega)
theorem szAccessS_eq {xs : List Access} {left : Int} (hc : CapL CapA xs) (h0 : 0 ≤ left) (h1 : left ≤ 1048576) : laws_szAccessS xs left = some (szR (sumN nAcc xs) left) := by
  unfold laws_szAccessS
  refine sz_list (x := fun l => (loopM (fun s : Int × Int => laws_szAccessS_L1 xs s.1 s.2) (l, (0 : Int))).bind fun e => match e with | .inl e => some e | .inr e => laws_szAccessS_J1 e) hc.1 h0 h1 (fun h => ?_)
  obtain ⟨q1, q2, q3⟩ := szR_le h0 h
  exact sz_loop xs nAcc (by unfold big; omega) laws_szAccess _ (fun x hx left => szAcc_eq (hc.2 x hx)) (fun _ _ => rfl) _ q1 (by omega)
theorem szKernel_eq {x : Kernel} {left : Int} (hc : CapK x) (h0 : 0 ≤ left) (h1 : left ≤ 1048576) : laws_szKernel x left = some (szR (nKer x) left) := by
  obtain ⟨c1, c2, c3, c4⟩ := hc
  unfold laws_szKernel nKer
  rw [szIntS_eq c1 h0 h1, bind_some', szR_add h0, szR_add h0, szR_add h0]
  by_cases h : szR x.Loops.length left < 0
  · simp [h]
  · obtain ⟨q1, q2, _⟩ := szR_le h0 h
    rw [if_neg (by simpa using h), szAccessS_eq c2 q1 (by omega), bind_some', if_neg h]
    by_cases h : szR (sumN nAcc x.Loads) (szR x.Loops.length left) < 0
    · simp [h]
    · obtain ⟨q3, q4, _⟩ := szR_le q1 h
      rw [if_neg (by simpa using h), szAcc_eq c3 q3 (by omega), bind_some', if_neg h]
      by_cases h : szR (nAcc x.Store) (szR (sumN nAcc x.Loads) (szR x.Loops.length left)) < 0
      · simp [h]
      · obtain ⟨q5, q6, _⟩ := szR_le q3 h
        rw [if_neg (by simpa using h), szCalcS_eq c4 q5 (by omega), bind_some', if_neg h, ifneg (szR_neg q5)]
theorem szKernelS_eq {xs : List Kernel} {left : Int} (hc : CapL CapK xs) (h0 : 0 ≤ left) (h1 : left ≤ 1048576) : laws_szKernelS xs left = some (szR (sumN nKer xs) left) := by
  unfold laws_szKernelS
  refine sz_list (x := fun l => (loopM (fun s : Int × Int => laws_szKernelS_L1 xs s.1 s.2) (l, (0 : Int))).bind fun e => match e with | .inl e => some e | .inr e => laws_szKernelS_J1 e) hc.1 h0 h1 (fun h => ?_)
  obtain ⟨q1, q2, q3⟩ := szR_le h0 h
  exact sz_loop xs nKer (by unfold big; omega) laws_szKernel _ (fun x hx left => szKernel_eq (hc.2 x hx)) (fun _ _ => rfl) _ q1 (by omega)
theorem szNest_eq {x : Nest} {left : Int} (hc : CapN x) (h0 : 0 ≤ left) (h1 : left ≤ 1048576) : laws_szNest x left = some (szR (nNest x) left) := by
  obtain ⟨c1, c2, c3, c4, c5⟩ := hc
  unfold laws_szNest nNest
  rw [szIntS_eq c1 h0 h1, bind_some', szR_add h0, szR_add h0, szR_add h0, szR_add h0]
  by_cases h : szR x.Sizes.length left < 0
  · simp [h]
  · obtain ⟨q1, q2, _⟩ := szR_le h0 h
    rw [if_neg (by simpa using h), szIntS_eq c2 q1 (by omega), bind_some', if_neg h]
    by_cases h : szR x.Ins.length (szR x.Sizes.length left) < 0
    · simp [h]
    · obtain ⟨q3, q4, _⟩ := szR_le q1 h
      rw [if_neg (by simpa using h), szFixS_eq c3 q3 (by omega), bind_some', if_neg h]
      by_cases h : szR (sumN nFix x.Fixed) (szR x.Ins.length (szR x.Sizes.length left)) < 0
      · simp [h]
      · obtain ⟨q5, q6, _⟩ := szR_le q3 h
        rw [if_neg (by simpa using h), szKernelS_eq c4 q5 (by omega), bind_some', if_neg h]
        by_cases h : szR (sumN nKer x.Kernels) (szR (sumN nFix x.Fixed) (szR x.Ins.length (szR x.Sizes.length left))) < 0
        · simp [h]
        · obtain ⟨q7, q8, _⟩ := szR_le q5 h
          rw [if_neg (by simpa using h), szIntS_eq c5 q7 (by omega), bind_some', if_neg h, ifneg (szR_neg q7)]
end Go.Proofs.Ytbdchgofcejiiaa
