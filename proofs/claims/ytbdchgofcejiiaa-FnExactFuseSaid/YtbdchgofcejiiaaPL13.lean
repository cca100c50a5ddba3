import Derived.Test.YtbdchgofcejiiaaPL12
set_option linter.unusedVariables false
set_option linter.unusedSimpArgs false
namespace Go.Proofs.Ytbdchgofcejiiaa
open Go Go.Pg
def allP (p c : Kernel) : List Access → Option (List Int) → Option (Option (List Int))
  | [], cur => some cur
  | a :: t, cur => if a.Buffer != p.Store.Buffer then allP p c t cur else match PR p c a with
    | none => none
    | some o => if cur = none ∨ cur = some o then allP p c t (some o) else none
theorem allP_ok {p c : Kernel} {xs : List Access} {cur r : Option (List Int)} (h : allP p c xs cur = some r) (h0 : ∀ w, cur = some w → w.length = p.Loops.length ∧ ∀ x ∈ w, 0 ≤ x ∧ x < (c.Loops.length : Int)) : ∀ w, r = some w → w.length = p.Loops.length ∧ ∀ x ∈ w, 0 ≤ x ∧ x < (c.Loops.length : Int) := by
  induction xs generalizing cur with
  | nil => injection h with h; subst h; exact h0
  | cons a t ih =>
    unfold allP at h
    split at h
    · exact ih h h0
    · cases hp : PR p c a with
      | none => rw [hp] at h; cases h
      | some o =>
        rw [hp] at h
        simp only at h
        split at h
        · exact ih h (fun w hw => by injection hw with hw; subst hw; exact PR_ok hp)
        · cases h
theorem set_rep {pre : List Int} {n k : Nat} (h : pre.length = k) (hk : k < n) (v : Int) : (pre ++ List.replicate (n - k) (0 : Int)).set k v = (pre ++ [v]) ++ List.replicate (n - (k + 1)) 0 := by
  obtain ⟨m, rfl⟩ : ∃ m, n = k + 1 + m := ⟨n - (k + 1), by omega⟩
  rw [show k + 1 + m - k = m + 1 by omega, show k + 1 + m - (k + 1) = m by omega, List.replicate_succ, ← h]
  simp
theorem rep_next {pre : List Int} {n k : Nat} (hk : k < n) : pre ++ List.replicate (n - k) (0 : Int) = (pre ++ [0]) ++ List.replicate (n - (k + 1)) 0 := by
  obtain ⟨m, rfl⟩ : ∃ m, n = k + 1 + m := ⟨n - (k + 1), by omega⟩
  rw [show k + 1 + m - k = m + 1 by omega, show k + 1 + m - (k + 1) = m by omega, List.replicate_succ]
  simp
theorem ix_app {xs ys : List Int} {i : Int} (h0 : 0 ≤ i) (h1 : i < (xs.length : Int)) : ix (xs ++ ys) i = ix xs i := by
  obtain ⟨j, rfl⟩ := Int.eq_ofNat_of_zero_le h0
  rw [ix_at (by simp; omega), ix_at (by omega), List.getElem_append_left]
def dk : Kernel := ⟨[], [], ⟨0, 0, []⟩, false, []⟩
def stF (p c : Kernel) (s : Option (List Int) × List Access × List Int) (a : Access) : (Option (List Int) × List Access × List Int) ⊕ ((Kernel × Bool) ⊕ (List Int × Bool × List Access × Bool × List Int)) :=
  if a.Buffer != p.Store.Buffer then .inl (s.1, s.2.1 ++ [a], s.2.2 ++ [(s.2.1.length : Int)]) else match PR p c a with
    | none => .inr (.inl (dk, false))
    | some o => if s.1 = none ∨ s.1 = some o then .inl (some o, s.2.1, s.2.2 ++ [0]) else .inr (.inl (dk, false))
def fiF (n : Nat) (s : Option (List Int) × List Access × List Int) : (Kernel × Bool) ⊕ (List Int × Bool × List Access × Bool × List Int) :=
  .inr (s.1.getD [], s.1.isNone, s.2.1, s.2.1.isEmpty, s.2.2 ++ List.replicate (n - s.2.2.length) 0)
theorem goF (p c : Kernel) (n : Nat) (xs : List Access) (j : Nat) (s : Option (List Int) × List Access × List Int) :
    goI (fun s _ a => stF p c s a) (fiF n) xs j s = match allP p c xs s.1 with | none => .inl (dk, false) | some cur => fiF n (cur, s.2.1 ++ xs.filter (fun a => a.Buffer != p.Store.Buffer), s.2.2 ++ toG p.Store.Buffer xs s.2.1.length) := by
  induction xs generalizing j s with
  | nil => simp [goI, allP, toG]
  | cons a t ih =>
    unfold goI allP toG
    have st : stF p c s a = (if a.Buffer != p.Store.Buffer then .inl (s.1, s.2.1 ++ [a], s.2.2 ++ [(s.2.1.length : Int)]) else match PR p c a with
      | none => .inr (.inl (dk, false))
      | some o => if s.1 = none ∨ s.1 = some o then .inl (some o, s.2.1, s.2.2 ++ [0]) else .inr (.inl (dk, false))) := rfl
    rw [st]
    cases e : (a.Buffer != p.Store.Buffer)
    · simp only [Bool.false_eq_true, if_false]
      cases hp : PR p c a with
      | none => rfl
      | some o =>
        simp only
        by_cases hc : s.1 = none ∨ s.1 = some o
        · rw [if_pos hc, if_pos hc]
          simp only
          rw [ih]
          simp [List.filter_cons, e]
        · rw [if_neg hc, if_neg hc]
    · simp only [if_true]
      rw [ih]
      simp [List.filter_cons, e]
theorem fused_L1 (p c : Kernel) {sz : List Int} (hp : KI sz p) (hc : KI sz c) :
    loopM (fun s : (List Int) × Bool × (List Access) × Bool × (List Int) × Int => impl_fused_L1 p c s.1 s.2.1 s.2.2.1 s.2.2.2.1 s.2.2.2.2.1 s.2.2.2.2.2) (([] : List Int), true, ([] : List Access), true, (List.replicate (c.Loads.length : Int).toNat (0 : Int)), (0 : Int)) =
      some (match allP p c c.Loads none with | none => .inl (dk, false) | some cur => .inr (cur.getD [], cur.isNone, keepL p c, (keepL p c).isEmpty, toG p.Store.Buffer c.Loads 0)) := by
  have hcl := hc.loads
  have hpl := hp.loops
  have hco := hc.loops
  have e := loop_goI (S := Option (List Int) × List Access × List Int) c.Loads (fun k s => s.2.2.length = k ∧ s.2.1.length ≤ k ∧ ∀ w, s.1 = some w → w.length ≤ 1048576) (fun s : (List Int) × Bool × (List Access) × Bool × (List Int) × Int => impl_fused_L1 p c s.1 s.2.1 s.2.2.1 s.2.2.2.1 s.2.2.2.2.1 s.2.2.2.2.2)
    (fun s i => (s.1.getD [], s.1.isNone, s.2.1, s.2.1.isEmpty, s.2.2 ++ List.replicate (c.Loads.length - s.2.2.length) 0, i)) (fun s _ a => stF p c s a) (fiF c.Loads.length) (fun s k hI hk => by
      obtain ⟨i0, i1, i2⟩ := hI
      show impl_fused_L1 p c (s.1.getD []) s.1.isNone s.2.1 s.2.1.isEmpty (s.2.2 ++ List.replicate (c.Loads.length - s.2.2.length) 0) (k : Int) = _
      have ha : PcOk p c (ix c.Loads (k : Int)) := ⟨by omega, by omega, hc.steps _ (ix_mem hk), hp.store⟩
      unfold impl_fused_L1 impl_fused_J2 stF
      rw [if_pos (lt_ hk), if_pos (inr_ hk), w64k (by unfold big; omega)]
      generalize ix c.Loads (k : Int) = a at *
      cases e : (a.Buffer != p.Store.Buffer)
      · simp only [Bool.false_eq_true, if_false]
        obtain ⟨x, nb, h1, h2⟩ := impl_part p c a ha
        rw [h1, bind_some']
        cases hPR : PR p c a with
        | none => simp [gc_f, bind_some', dk]
        | some o =>
          obtain ⟨rfl, rfl⟩ := h2 o hPR
          simp only [Option.isSome_some, Bool.not_true, Bool.not_false, Bool.true_and, Bool.false_or]
          have hrep := @rep_next s.2.2 c.Loads.length k hk
          cases hs1 : s.1 with
          | none =>
            simp only [Option.isNone_none, Bool.not_true, gc_f, bind_some', Bool.false_and, Bool.false_eq_true, if_false, true_or, if_true, Option.getD_some, Option.isNone_some, List.length_append, List.length_singleton, i0]
            rw [hrep]
          | some w =>
            have hwl := i2 w hs1
            simp only [Option.isNone_some, Bool.not_false, gc_t, Option.getD_some, equal_same, same_eq _ _ (show w.length < big by unfold big; omega), bind_some', Bool.true_and]
            by_cases hw : w = x
            · subst hw
              simp only [decide_true, Bool.not_true, Bool.false_eq_true, if_false, or_true, if_true, List.length_append, List.length_singleton, i0, Option.getD_some, Option.isNone_some]
              rw [hrep]
            · have hne : ¬ ((some w : Option (List Int)) = none ∨ some w = some x) := by simp [hw]
              simp only [hw, decide_false, Bool.not_false, if_true, if_neg hne]
              rfl
      · simp only [if_true]
        rw [if_pos (rep_ hk), if_pos (by simp; omega), Int.toNat_natCast, i0, set_rep i0 hk]
        simp [i0]) (fun s k s' hI hk hs => by
      obtain ⟨i0, i1, i2⟩ := hI
      unfold stF at hs
      split at hs
      · injection hs with hs; subst hs; exact ⟨by simp; omega, by simp; omega, i2⟩
      · cases hPR : PR p c (ix c.Loads (k : Int)) with
        | none => rw [hPR] at hs; cases hs
        | some o =>
          rw [hPR] at hs
          simp only at hs
          split at hs
          · injection hs with hs; subst hs
            refine ⟨by simp; omega, by simp only; omega, fun w hw => ?_⟩
            injection hw with hw; subst hw
            have := (PR_ok hPR).1
            omega
          · cases hs) (fun s hI => by
      show impl_fused_L1 p c (s.1.getD []) s.1.isNone s.2.1 s.2.1.isEmpty (s.2.2 ++ List.replicate (c.Loads.length - s.2.2.length) 0) (c.Loads.length : Int) = _
      unfold impl_fused_L1; simp only [nlt_, Bool.false_eq_true, if_false]; rfl) (none, [], []) ⟨rfl, Nat.le_refl _, fun w h => by cases h⟩
  have e' : loopM (fun s : (List Int) × Bool × (List Access) × Bool × (List Int) × Int => impl_fused_L1 p c s.1 s.2.1 s.2.2.1 s.2.2.2.1 s.2.2.2.2.1 s.2.2.2.2.2) (([] : List Int), true, ([] : List Access), true, (List.replicate (c.Loads.length : Int).toNat (0 : Int)), (0 : Int)) = some (goI (fun s _ a => stF p c s a) (fiF c.Loads.length) c.Loads 0 (none, [], [])) := by
    rw [← e]
    simp
  rw [e', goF]
  cases allP p c c.Loads none with
  | none => rfl
  | some cur =>
    simp only [fiF, List.nil_append, List.length_nil]
    rw [toG_len, Nat.sub_self]
    simp [keepL]
theorem goI_pair (w : List Int) (a : Access) (j : Nat) (nb : Bool) (arr : List Int) : goI (S := Bool × List Int) (R := Bool × List Int) (fun s j x => .inl (false, s.2.set x.toNat (ix a.Steps (j : Int)))) (fun s => s) w j (nb, arr) = (nb && w.isEmpty, goI (S := List Int) (R := List Int) (fun s j x => .inl (s.set x.toNat (ix a.Steps (j : Int)))) (fun s => s) w j arr) := by
  induction w generalizing j nb arr with
  | nil => simp [goI]
  | cons x t ih =>
    unfold goI
    simp only []
    rw [ih]
    simp
theorem fused_L3 (p c : Kernel) (w : List Int) (i : Nat) (nb : Bool) (hw : w.length ≤ (ix p.Loads (i : Int)).Steps.length) (hw2 : ∀ x ∈ w, 0 ≤ x ∧ x < (c.Loops.length : Int)) (hwl : w.length ≤ 1048576) :
    loopM (fun s : Bool × (List Int) × Int => impl_fused_L3 p c w (i : Int) s.1 s.2.1 s.2.2) (nb, (List.replicate (c.Loops.length : Int).toNat (0 : Int)), (0 : Int)) = some (nb && w.isEmpty, scat w c.Loops.length (ix p.Loads (i : Int))) := by
  rw [loop_goI (S := Bool × List Int) w (fun _ _ => True) (fun s : Bool × (List Int) × Int => impl_fused_L3 p c w (i : Int) s.1 s.2.1 s.2.2) (fun s i => (s.1, s.2, i)) (fun s j x => .inl (false, s.2.set x.toNat (ix (ix p.Loads (i : Int)).Steps (j : Int)))) (fun s => s) (fun s k _ hk => by
    show impl_fused_L3 p c w (i : Int) s.1 s.2 (k : Int) = _
    have hx := hw2 _ (ix_mem hk)
    unfold impl_fused_L3
    rw [if_pos (lt_ hk), if_pos (inr_ hk), if_pos (inr_ (by omega)), if_pos (by rw [List.length_replicate, Int.toNat_natCast]; exact hx), nm_bind, w64k (by unfold big; omega)]) (fun _ _ _ _ _ _ => trivial) (fun s _ => by
    show impl_fused_L3 p c w (i : Int) s.1 s.2 (w.length : Int) = _
    unfold impl_fused_L3; simp only [nlt_, Bool.false_eq_true, if_false]) (nb, _) trivial]
  rw [goI_pair, Int.toNat_natCast]; rfl
theorem fused_L2 (p c : Kernel) (w : List Int) (x0 : List Access) (nb nb2 : Bool) {sz : List Int} (hp : KI sz p) (hc : KI sz c) (hw : w.length ≤ p.Loops.length) (hw2 : ∀ x ∈ w, 0 ≤ x ∧ x < (c.Loops.length : Int)) (hx : x0.length ≤ 30) :
    ∃ nb3, loopM (fun s : Bool × (List Access) × Bool × Int => impl_fused_L2 p c w s.1 s.2.1 s.2.2.1 s.2.2.2) (nb, x0, nb2, (0 : Int)) = some (x0 ++ p.Loads.map (fun a => ⟨a.Buffer, a.Offset, scat w c.Loops.length a⟩), nb3) := by
  have hpl := hp.loads
  have hcl := hc.loops
  have hpo := hp.loops
  have e := loop_goI (S := Bool × List Access × Bool) p.Loads (fun k s => s.2.1.length ≤ 30 + k) (fun s : Bool × (List Access) × Bool × Int => impl_fused_L2 p c w s.1 s.2.1 s.2.2.1 s.2.2.2) (fun s i => (s.1, s.2.1, s.2.2, i)) (fun s _ a => .inl (s.1 && w.isEmpty, s.2.1 ++ [(⟨a.Buffer, a.Offset, scat w c.Loops.length a⟩ : Access)], false)) (fun s => s.2) (fun s k hI hk => by
    show impl_fused_L2 p c w s.1 s.2.1 s.2.2 (k : Int) = _
    unfold impl_fused_L2 impl_fused_J5
    rw [if_pos (lt_ hk), if_pos (inr_ hk), if_pos (by omega), fused_L3 p c w k s.1 (by rw [hp.steps _ (ix_mem hk)]; exact hw) hw2 (by omega), bind_some', if_pos (by simp; omega), w64k (by unfold big; omega)]) (fun s k s' hI hk hs => by
    injection hs with hs; subst hs; simp; omega) (fun s _ => by
    show impl_fused_L2 p c w s.1 s.2.1 s.2.2 (p.Loads.length : Int) = _
    unfold impl_fused_L2; simp only [nlt_, Bool.false_eq_true, if_false]) (nb, x0, nb2) hx
  rw [e, goI_foldl (fun (s : Bool × List Access × Bool) a => (s.1 && w.isEmpty, s.2.1 ++ [(⟨a.Buffer, a.Offset, scat w c.Loops.length a⟩ : Access)], false))]
  have key : ∀ (xs : List Access) (s : Bool × List Access × Bool), (xs.foldl (fun (s : Bool × List Access × Bool) a => (s.1 && w.isEmpty, s.2.1 ++ [(⟨a.Buffer, a.Offset, scat w c.Loops.length a⟩ : Access)], false)) s).2.1 = s.2.1 ++ xs.map (fun a => ⟨a.Buffer, a.Offset, scat w c.Loops.length a⟩) := by
    intro xs
    induction xs with
    | nil => intro s; simp
    | cons a t ih => intro s; simp only [List.foldl_cons]; rw [ih]; simp
  refine ⟨(p.Loads.foldl (fun (s : Bool × List Access × Bool) a => (s.1 && w.isEmpty, s.2.1 ++ [(⟨a.Buffer, a.Offset, scat w c.Loops.length a⟩ : Access)], false)) (nb, x0, nb2)).2.2, ?_⟩
  have := key p.Loads (nb, x0, nb2)
  simp only at this
  rw [← this]
theorem fused_L4 (p : Kernel) (x : List Access) {sz : List Int} (hp : KI sz p) : ∃ nb, loopM (fun s : (List Calc) × Bool × Int => impl_fused_L4 p x s.1 s.2.1 s.2.2) ([], true, 0) = some (p.Code.map (shift x.length), nb) := by
  have hpc := hp.code2
  have e := loop_goI (S := List Calc × Bool) p.Code (fun k s => s.1.length ≤ k) (fun s : (List Calc) × Bool × Int => impl_fused_L4 p x s.1 s.2.1 s.2.2) (fun s i => (s.1, s.2, i)) (fun s _ a => .inl (s.1 ++ [shift x.length a], false)) (fun s => s) (fun s k hI hk => by
    show impl_fused_L4 p x s.1 s.2 (k : Int) = _
    unfold impl_fused_L4 impl_fused_J8 shift
    have l2 : ∀ v : Calc, s.1.length + ([v] : List Calc).length ≤ 5864062014805 := fun v => by simp; omega
    rw [if_pos (lt_ hk), if_pos (inr_ hk), w64k (by unfold big; omega)]
    simp only [if_pos (l2 _)]
    cases (ix p.Code (k : Int)).Op == 1 <;> rfl) (fun s k s' hI hk hs => by
    injection hs with hs; subst hs; simp; omega) (fun s _ => by
    show impl_fused_L4 p x s.1 s.2 (p.Code.length : Int) = _
    unfold impl_fused_L4; simp only [nlt_, Bool.false_eq_true, if_false]) ([], true) (by simp)
  have key : ∀ (xs : List Calc) (s : List Calc × Bool), (xs.foldl (fun (s : List Calc × Bool) a => (s.1 ++ [shift x.length a], false)) s).1 = s.1 ++ xs.map (shift x.length) := by
    intro xs
    induction xs with
    | nil => intro s; simp
    | cons a t ih => intro s; simp only [List.foldl_cons]; rw [ih]; simp
  rw [e, goI_foldl (fun (s : List Calc × Bool) a => (s.1 ++ [shift x.length a], false))]
  refine ⟨(p.Code.foldl (fun (s : List Calc × Bool) a => (s.1 ++ [shift x.length a], false)) ([], true)).2, ?_⟩
  have := key p.Code ([], true)
  simp only [List.nil_append] at this
  rw [← this]
end Go.Proofs.Ytbdchgofcejiiaa
