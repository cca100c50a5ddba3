import Derived.Test.YtbdchgofcejiiaaPL10
set_option linter.unusedVariables false
set_option linter.unusedSimpArgs false
namespace Go.Proofs.Ytbdchgofcejiiaa
open Go Go.Pg
theorem loop_find {R T : Type} (n : Nat) (f : T → Option (T ⊕ R)) (mk : Int → T) (q : Nat → Bool) (ra : Nat → R) (rb : R)
    (h1 : ∀ k : Nat, k < n → f (mk (k : Int)) = some (if q k then .inr (ra k) else .inl (mk ((k + 1 : Nat) : Int)))) (h2 : f (mk (n : Int)) = some (.inr rb)) :
    loopM f (mk 0) = some (match (List.range n).find? q with | some k => ra k | none => rb) := by
  have hix : ∀ k, k < (List.range n).length → ix (List.range n) (k : Int) = k := fun k hk => by rw [ix_at hk]; simp
  rw [loop_goI (S := Unit) (List.range n) (fun _ _ => True) f (fun _ i => mk i) (fun _ _ x => if q x then .inr (ra x) else .inl ()) (fun _ => rb) (fun s k _ hk => by
    rw [hix k hk, h1 k (by simpa using hk)]; split <;> rfl) (fun _ _ _ _ _ _ => trivial) (fun _ _ => by simpa using h2) () trivial]
  congr 1
  have key : ∀ (xs : List Nat) (j : Nat), goI (S := Unit) (fun _ _ x => if q x then .inr (ra x) else .inl ()) (fun _ => rb) xs j () = (match xs.find? q with | some k => ra k | none => rb) := by
    intro xs
    induction xs with
    | nil => intro j; rfl
    | cons x t ih =>
      intro j
      unfold goI
      cases hq : q x
      · simp only [Bool.false_eq_true, if_false, List.find?_cons, hq]; exact ih _
      · simp [hq]
  exact key _ _
theorem loop_find2 {T : Type} (n : Nat) (f : T → Option (T ⊕ Int)) (mk : Int → Int → T) (q : Nat → Bool)
    (h1 : ∀ (s : Int) (k : Nat), k < n → f (mk s (k : Int)) = some (.inl (mk (if s < 0 ∧ q k = true then (k : Int) else s) ((k + 1 : Nat) : Int)))) (h2 : ∀ s, f (mk s (n : Int)) = some (.inr s)) :
    loopM f (mk (-1) 0) = some (match (List.range n).find? q with | some k => (k : Int) | none => -1) := by
  have hix : ∀ k, k < (List.range n).length → ix (List.range n) (k : Int) = k := fun k hk => by rw [ix_at hk]; simp
  rw [loop_goI (S := Int) (List.range n) (fun _ _ => True) f mk (fun s _ x => .inl (if s < 0 ∧ q x = true then (x : Int) else s)) (fun s => s) (fun s k _ hk => by
    rw [hix k hk, h1 s k (by simpa using hk)]) (fun _ _ _ _ _ _ => trivial) (fun s _ => by simpa using h2 s) (-1) trivial]
  congr 1
  have key : ∀ (xs : List Nat) (j : Nat) (s : Int), goI (R := Int) (fun s _ x => .inl (if s < 0 ∧ q x = true then (x : Int) else s)) (fun s => s) xs j s = if s < 0 then (match xs.find? q with | some k => (k : Int) | none => s) else s := by
    intro xs
    induction xs with
    | nil => intro j s; unfold goI; split <;> rfl
    | cons x t ih =>
      intro j s
      unfold goI
      simp only []
      rw [ih]
      by_cases h0 : s < 0
      · cases hq : q x
        · simp [h0, hq]
        · simp [h0, hq]; omega
      · simp [h0]
  rw [key, if_pos (by omega)]
def qF (c : Kernel) (a : Access) (out : List Int) (x y : Int) (m : Nat) : Bool := (!(decide ((m : Int) ∈ out)) && ix c.Loops (m : Int) == x) && ix a.Steps (m : Int) == y
def fnd (c : Kernel) (a : Access) (out : List Int) (x y : Int) : Option Nat := (List.range c.Loops.length).find? (qF c a out x y)
theorem fnd_lt {c : Kernel} {a : Access} {out : List Int} {x y : Int} {m : Nat} (h : fnd c a out x y = some m) : m < c.Loops.length := by
  have := List.mem_of_find?_eq_some h
  simpa using this
def prt (c : Kernel) (a : Access) (Y : List Int) : List Int → Nat → List Int → Option (List Int)
  | [], _, out => some out
  | x :: t, i, out => match fnd c a out x (ix Y (i : Int)) with
    | none => none
    | some m => prt c a Y t (i + 1) (out ++ [(m : Int)])
theorem prt_ok {c : Kernel} {a : Access} {Y : List Int} {xs : List Int} {i : Nat} {out r : List Int} (h : prt c a Y xs i out = some r) (h0 : ∀ x ∈ out, 0 ≤ x ∧ x < (c.Loops.length : Int)) : r.length = out.length + xs.length ∧ ∀ x ∈ r, 0 ≤ x ∧ x < (c.Loops.length : Int) := by
  induction xs generalizing i out with
  | nil => injection h with h; subst h; exact ⟨rfl, h0⟩
  | cons x t ih =>
    unfold prt at h
    cases hf : fnd c a out x (ix Y (i : Int)) with
    | none => rw [hf] at h; cases h
    | some m =>
      rw [hf] at h
      have hm := fnd_lt hf
      obtain ⟨q1, q2⟩ := ih h (fun z hz => by
        rcases List.mem_append.1 hz with hz | hz
        · exact h0 z hz
        · simp only [List.mem_singleton] at hz; subst hz; omega)
      exact ⟨by simp at q1 ⊢; omega, q2⟩
def chk (c : Kernel) (a : Access) (out : List Int) : Bool := (List.range c.Loops.length).all fun m => decide ((m : Int) ∈ out) || ix a.Steps (m : Int) == 0
def PR (p c : Kernel) (a : Access) : Option (List Int) := if a.Offset = 0 then (match prt c a p.Store.Steps p.Loops 0 [] with | none => none | some o => if chk c a o then some o else none) else none
theorem PR_ok {p c : Kernel} {a : Access} {o : List Int} (h : PR p c a = some o) : o.length = p.Loops.length ∧ ∀ x ∈ o, 0 ≤ x ∧ x < (c.Loops.length : Int) := by
  unfold PR at h
  split at h
  · cases hp : prt c a p.Store.Steps p.Loops 0 [] with
    | none => rw [hp] at h; cases h
    | some o' =>
      rw [hp] at h
      simp only at h
      split at h
      · injection h with h; subst h
        simpa using prt_ok hp (by simp)
      · cases h
  · cases h
structure PcOk (p c : Kernel) (a : Access) : Prop where
  pl : p.Loops.length ≤ 1048576
  cl : c.Loops.length ≤ 1048576
  st : a.Steps.length = c.Loops.length
  ps : p.Store.Steps.length = p.Loops.length
theorem spec_part_L2 (p c : Kernel) (a : Access) (h : PcOk p c a) (out : List Int) (i : Nat) (hi : i < p.Loops.length) (ho : out.length < big) :
    loopM (fun s : Int => spec_l11Partners_L2 p c a out (i : Int) s) 0 = some (match fnd c a out (ix p.Loops (i : Int)) (ix p.Store.Steps (i : Int)) with | some m => (m : Int) | none => (c.Loops.length : Int)) := by
  have hcl := h.cl
  refine loop_find c.Loops.length (fun s : Int => spec_l11Partners_L2 p c a out (i : Int) s) (fun i => i) (qF c a out (ix p.Loops (i : Int)) (ix p.Store.Steps (i : Int))) (fun k => (k : Int)) (c.Loops.length : Int) (fun k hk => ?_) ?_
  · unfold spec_l11Partners_L2 qF
    rw [lt_ hk, gc_t, l7Has_eq _ _ ho, bind_some', w64k (by unfold big; omega), if_pos (fun _ _ => inr_ hk), if_pos (fun _ _ => inr_ hi), if_pos (fun _ _ => inr_ (by rw [h.st]; exact hk)), if_pos (fun _ _ => inr_ (by rw [h.ps]; exact hi))]
    cases h1 : decide ((k : Int) ∈ out) <;> by_cases h2 : ix c.Loops (k : Int) = ix p.Loops (i : Int) <;> by_cases h3 : ix a.Steps (k : Int) = ix p.Store.Steps (i : Int) <;> simp [h2, h3]
  · unfold spec_l11Partners_L2
    simp only [nlt_, gc_f, bind_some']
    rw [if_pos (by simp), if_pos (by simp), if_pos (by simp), if_pos (by simp)]
    simp
theorem impl_part_L2 (p c : Kernel) (a : Access) (h : PcOk p c a) (out : List Int) (i : Nat) (hi : i < p.Loops.length) (ho : out.length < big) :
    loopM (fun s : Int × Int => impl_partners_L2 p c a out (i : Int) s.1 s.2) ((-1 : Int), (0 : Int)) = some (match fnd c a out (ix p.Loops (i : Int)) (ix p.Store.Steps (i : Int)) with | some m => (m : Int) | none => -1) := by
  have hcl := h.cl
  refine loop_find2 c.Loops.length (fun s : Int × Int => impl_partners_L2 p c a out (i : Int) s.1 s.2) (fun s i => (s, i)) (qF c a out (ix p.Loops (i : Int)) (ix p.Store.Steps (i : Int))) (fun s k hk => ?_) (fun s => ?_)
  · show impl_partners_L2 p c a out (i : Int) s (k : Int) = _
    unfold impl_partners_L2 impl_partners_J5 qF
    rw [if_pos (lt_ hk), if_pos (inr_ hk), if_pos (fun _ => inr_ (by rw [h.st]; exact hk)), if_pos (fun _ => inr_ (by rw [h.ps]; exact hi)), w64k (by unfold big; omega)]
    by_cases h0 : s < 0
    · by_cases h2 : ix c.Loops (k : Int) = ix p.Loops (i : Int)
      · by_cases h3 : ix a.Steps (k : Int) = ix p.Store.Steps (i : Int)
        · simp only [h0, h2, h3, decide_true, beq_self_eq_true, Bool.and_self, gc_t, contains_eq _ _ ho, bind_some', Bool.true_and]
          cases h1 : decide ((k : Int) ∈ out) <;> simp
        · have e3 := beq_eq_false_iff_ne.2 h3
          simp [h0, h2, e3, gc_f, bind_some']
      · have e2 := beq_eq_false_iff_ne.2 h2
        simp [h0, e2, gc_f, bind_some']
    · simp [h0, gc_f, bind_some']
  · show impl_partners_L2 p c a out (i : Int) s (c.Loops.length : Int) = _
    unfold impl_partners_L2; simp only [nlt_, Bool.false_eq_true, if_false]
theorem spec_part (p c : Kernel) (a : Access) (h : PcOk p c a) : ∃ x, spec_l11Partners p c a = some (x, (PR p c a).isSome) ∧ ∀ o, PR p c a = some o → x = o := by
  have hpl := h.pl
  have hcl := h.cl
  unfold spec_l11Partners
  have e := loop_goI (S := List Int) (R := ((List Int) × Bool) ⊕ (List Int)) p.Loops (fun k s => s.length = k) (fun s : (List Int) × Int => spec_l11Partners_L1 p c a s.1 s.2) (fun s i => (s, i))
    (fun s i x => match fnd c a s x (ix p.Store.Steps (i : Int)) with | none => .inr (.inl (s, false)) | some m => .inl (s ++ [(m : Int)])) (fun s => .inr s) (fun s k hI hk => by
      show spec_l11Partners_L1 p c a s (k : Int) = _
      unfold spec_l11Partners_L1
      rw [if_pos (lt_ hk), spec_part_L2 p c a h s k hk (by unfold big; omega), bind_some']
      cases hf : fnd c a s (ix p.Loops (k : Int)) (ix p.Store.Steps (k : Int)) with
      | none => simp [spec_l11Partners_J2]
      | some m =>
        have := fnd_lt hf
        unfold spec_l11Partners_J2
        simp only
        rw [if_neg (by simp; omega), if_pos (by simp; omega), w64k (by unfold big; omega)]) (fun s k s' hI hk hs => by
      cases hf : fnd c a s (ix p.Loops (k : Int)) (ix p.Store.Steps (k : Int)) with
      | none => rw [hf] at hs; cases hs
      | some m => rw [hf] at hs; injection hs with hs; subst hs; simp; omega) (fun s _ => by
      show spec_l11Partners_L1 p c a s (p.Loops.length : Int) = _
      unfold spec_l11Partners_L1; simp only [nlt_, Bool.false_eq_true, if_false]) [] rfl
  rw [e, bind_some']
  have key : ∀ (xs : List Int) (j : Nat) (s : List Int), (∃ x, prt c a p.Store.Steps xs j s = none ∧ goI (R := ((List Int) × Bool) ⊕ (List Int)) (fun s i x => match fnd c a s x (ix p.Store.Steps (i : Int)) with | none => .inr (.inl (s, false)) | some m => .inl (s ++ [(m : Int)])) (fun s => .inr s) xs j s = .inl (x, false)) ∨
      (∃ o, prt c a p.Store.Steps xs j s = some o ∧ goI (R := ((List Int) × Bool) ⊕ (List Int)) (fun s i x => match fnd c a s x (ix p.Store.Steps (i : Int)) with | none => .inr (.inl (s, false)) | some m => .inl (s ++ [(m : Int)])) (fun s => .inr s) xs j s = .inr o) := by
    intro xs
    induction xs with
    | nil => intro j s; exact .inr ⟨s, rfl, rfl⟩
    | cons x t ih =>
      intro j s
      unfold prt goI
      cases hf : fnd c a s x (ix p.Store.Steps (j : Int)) with
      | none => exact .inl ⟨s, rfl, rfl⟩
      | some m => exact ih _ _
  rcases key p.Loops 0 [] with ⟨x, k1, k2⟩ | ⟨o, k1, k2⟩
  · rw [k2]
    have hn : PR p c a = none := by unfold PR; rw [k1]; split <;> rfl
    rw [hn]
    exact ⟨x, rfl, fun o h => by cases h⟩
  · rw [k2]
    have ho := prt_ok k1 (by simp)
    unfold spec_l11Partners_J3
    simp only
    rw [loop_allI c.Loops.length (fun s : Int => spec_l11Partners_L3 c a o s) (fun i => i) (fun m => decide ((m : Int) ∈ o) || ix a.Steps (m : Int) == 0) (.inl (o, false)) (.inr ()) (fun k hk => by
      unfold spec_l11Partners_L3
      rw [if_pos (lt_ hk), l7Has_eq _ _ (by have := ho.1; simp at this; unfold big; omega), bind_some', if_pos (fun _ => inr_ (by rw [h.st]; exact hk)), w64k (by unfold big; omega)]
      cases h1 : decide ((k : Int) ∈ o) <;> by_cases h2 : ix a.Steps (k : Int) = 0 <;> simp [h2]) (by unfold spec_l11Partners_L3; simp only [nlt_, Bool.false_eq_true, if_false]), bind_some']
    have hce : ((List.range c.Loops.length).all fun m => decide ((m : Int) ∈ o) || ix a.Steps (m : Int) == 0) = chk c a o := rfl
    rw [hce]
    by_cases hz : a.Offset = 0
    · have hPR : PR p c a = if chk c a o = true then some o else none := by unfold PR; rw [if_pos hz, k1]
      rw [hPR]
      cases hc : chk c a o
      · exact ⟨o, rfl, fun o' h => by cases h⟩
      · refine ⟨o, ?_, fun o' h => by injection h⟩
        simp [hz, spec_l11Partners_J4]
    · have hPR : PR p c a = none := by unfold PR; rw [if_neg hz]
      rw [hPR]
      cases hc : chk c a o
      · exact ⟨o, rfl, fun o' h => by cases h⟩
      · refine ⟨o, ?_, fun o' h => by cases h⟩
        simp [hz, spec_l11Partners_J4]
theorem impl_part (p c : Kernel) (a : Access) (h : PcOk p c a) : ∃ x nb, impl_partners p c a = some (x, (PR p c a).isSome, nb) ∧ ∀ o, PR p c a = some o → x = o ∧ nb = false := by
  have hpl := h.pl
  have hcl := h.cl
  unfold impl_partners
  rcases (Classical.em (a.Offset = 0)).symm with hz | hz
  · refine ⟨[], true, ?_, fun o h => ?_⟩
    · rw [if_pos (by simp [hz])]; unfold PR; rw [if_neg hz]; rfl
    · unfold PR at h; rw [if_neg hz] at h; cases h
  rw [if_neg (by simp [hz])]
  have e := loop_goI (S := List Int) (R := ((List Int) × Bool × Bool) ⊕ (List Int)) p.Loops (fun k s => s.length = k) (fun s : (List Int) × Int => impl_partners_L1 p c a s.1 s.2) (fun s i => (s, i))
    (fun s i x => match fnd c a s x (ix p.Store.Steps (i : Int)) with | none => .inr (.inl ([], false, true)) | some m => .inl (s ++ [(m : Int)])) (fun s => .inr s) (fun s k hI hk => by
      show impl_partners_L1 p c a s (k : Int) = _
      unfold impl_partners_L1
      rw [if_pos (lt_ hk), if_pos (inr_ hk), impl_part_L2 p c a h s k hk (by unfold big; omega), bind_some']
      cases hf : fnd c a s (ix p.Loops (k : Int)) (ix p.Store.Steps (k : Int)) with
      | none => simp [impl_partners_J6]
      | some m =>
        unfold impl_partners_J6
        simp only
        rw [if_neg (by simp), if_pos (by simp; omega), w64k (by unfold big; omega)]) (fun s k s' hI hk hs => by
      cases hf : fnd c a s (ix p.Loops (k : Int)) (ix p.Store.Steps (k : Int)) with
      | none => rw [hf] at hs; cases hs
      | some m => rw [hf] at hs; injection hs with hs; subst hs; simp; omega) (fun s _ => by
      show impl_partners_L1 p c a s (p.Loops.length : Int) = _
      unfold impl_partners_L1; simp only [nlt_, Bool.false_eq_true, if_false]) [] rfl
  rw [e, bind_some']
  have key : ∀ (xs : List Int) (j : Nat) (s : List Int), (prt c a p.Store.Steps xs j s = none ∧ goI (R := ((List Int) × Bool × Bool) ⊕ (List Int)) (fun s i x => match fnd c a s x (ix p.Store.Steps (i : Int)) with | none => .inr (.inl ([], false, true)) | some m => .inl (s ++ [(m : Int)])) (fun s => .inr s) xs j s = .inl ([], false, true)) ∨
      (∃ o, prt c a p.Store.Steps xs j s = some o ∧ goI (R := ((List Int) × Bool × Bool) ⊕ (List Int)) (fun s i x => match fnd c a s x (ix p.Store.Steps (i : Int)) with | none => .inr (.inl ([], false, true)) | some m => .inl (s ++ [(m : Int)])) (fun s => .inr s) xs j s = .inr o) := by
    intro xs
    induction xs with
    | nil => intro j s; exact .inr ⟨s, rfl, rfl⟩
    | cons x t ih =>
      intro j s
      unfold prt goI
      cases hf : fnd c a s x (ix p.Store.Steps (j : Int)) with
      | none => exact .inl ⟨rfl, rfl⟩
      | some m => exact ih _ _
  unfold PR
  rw [if_pos hz]
  rcases key p.Loops 0 [] with ⟨k1, k2⟩ | ⟨o, k1, k2⟩
  · rw [k2, k1]
    exact ⟨[], true, rfl, fun o h => by cases h⟩
  · rw [k2, k1]
    have ho := prt_ok k1 (by simp)
    unfold impl_partners_J7
    simp only
    rw [loop_allI a.Steps.length (fun s : Int => impl_partners_L3 a o s) (fun i => i) (fun m => decide ((m : Int) ∈ o) || ix a.Steps (m : Int) == 0) (.inl ([], false, true)) (.inr ()) (fun k hk => by
      have hst := h.st
      unfold impl_partners_L3
      rw [if_pos (lt_ hk), if_pos (inr_ hk), w64k (by unfold big; omega)]
      by_cases h2 : ix a.Steps (k : Int) = 0
      · simp [h2, gc_f, bind_some']
      · have e2 : (ix a.Steps (k : Int) != 0) = true := by simpa using h2
        rw [e2, gc_t, contains_eq _ _ (by have := ho.1; simp at this; unfold big; omega), bind_some']
        cases h1 : decide ((k : Int) ∈ o) <;> simp [h2]) (by unfold impl_partners_L3; simp only [nlt_, Bool.false_eq_true, if_false]), bind_some', h.st]
    have hce : ((List.range c.Loops.length).all fun m => decide ((m : Int) ∈ o) || ix a.Steps (m : Int) == 0) = chk c a o := rfl
    rw [hce]
    cases hc : chk c a o
    · exact ⟨[], true, rfl, fun o' h => by cases h⟩
    · exact ⟨o, false, rfl, fun o' h => by injection h with h; exact ⟨h, rfl⟩⟩
end Go.Proofs.Ytbdchgofcejiiaa
