import Derived.Test.YtbdchgofcejiiaaPL14
set_option linter.unusedVariables false
set_option linter.unusedSimpArgs false
namespace Go.Proofs.Ytbdchgofcejiiaa
open Go Go.Pg
theorem fold_ind {α S : Type} (g : S → α → S) (xs : List α) (I : Nat → S → Prop) (s0 : S) (h0 : I 0 s0) (h : ∀ (k : Nat) (s : S) (hk : k < xs.length), I k s → I (k + 1) (g s xs[k])) : I xs.length (xs.foldl g s0) := by
  have key : ∀ (m k : Nat) (s : S), k + m = xs.length → I k s → I xs.length ((xs.drop k).foldl g s) := by
    intro m
    induction m with
    | zero => intro k s hk hI; have hk : k = xs.length := by omega
              subst hk; rw [List.drop_length]; exact hI
    | succ m ih =>
      intro k s hk hI
      have hlt : k < xs.length := by omega
      rw [List.drop_eq_getElem_cons hlt, List.foldl_cons]
      exact ih (k + 1) _ (by omega) (h k s hlt hI)
  simpa using key xs.length 0 s0 (by omega) h0
def CVx (L : Nat) (j : Nat) (x : Calc) : Prop :=
  (x.Op = 1 → 0 ≤ x.A ∧ x.A < (L : Int)) ∧ (x.Op = 3 ∨ x.Op = 4 ∨ x.Op = 5 → 0 ≤ x.B ∧ x.B < (j : Int)) ∧ (x.Op ≠ 1 → x.Op ≠ 2 → 0 ≤ x.A ∧ x.A < (j : Int))
def CV (L : Nat) (code : List Calc) : Prop := ∀ j : Nat, ∀ h : j < code.length, CVx L j code[j]
theorem CV.app {L : Nat} {code : List Calc} {x : Calc} (h : CV L code) (hx : CVx L code.length x) : CV L (code ++ [x]) := by
  intro j hj
  by_cases e : j < code.length
  · rw [List.getElem_append_left e]; exact h j e
  · have : j = code.length := by simp at hj; omega
    subst this
    simpa using hx
theorem KI.cv {sizes : List Int} {k : Kernel} (h : KI sizes k) : CV k.Loads.length k.Code := fun j hj => by
  have h1 := h.op1 j hj
  have h2 := h.op3 j hj
  have h3 := h.opn j hj
  rw [ix_at hj] at h1 h2 h3
  exact ⟨h1, h2, h3⟩
theorem fuse_code (p c : Kernel) (w : List Int) {sz : List Int} (hp : KI sz p) (hc : KI sz c) : CV (fuseK p c w).Loads.length (codeC p c (keepL p c).length).1 ∧ p.Code.length ≤ (codeC p c (keepL p c).length).1.length := by
  have hL : (fuseK p c w).Loads.length = (keepL p c).length + p.Loads.length := by simp [fuseK]
  have hkl := keep_len p c
  have hcl := hc.loads
  have hpl := hp.loads
  have hpc := hp.code2
  have hp1 := hp.code1
  have hpcv := hp.cv
  have hccv := hc.cv
  unfold codeC
  have := fold_ind (stC c p.Store.Buffer (toF p.Store.Buffer c.Loads 0) (w64 ((p.Code.length : Int) - 1))) c.Code (fun k s => CV (fuseK p c w).Loads.length s.1 ∧ p.Code.length ≤ s.1.length ∧ s.2.length = k ∧ ∀ v ∈ s.2, 0 ≤ v ∧ v < (s.1.length : Int)) (p.Code.map (shift (keepL p c).length), []) ⟨?_, by simp, rfl, fun v h => by cases h⟩ ?_
  · exact ⟨this.1, this.2.1⟩
  · intro j hj
    have hj' : j < p.Code.length := by simpa using hj
    rw [List.getElem_map]
    obtain ⟨a1, a2, a3⟩ := hpcv j hj'
    unfold shift CVx
    by_cases o : p.Code[j].Op = 1
    · have e : (p.Code[j].Op == 1) = true := by simpa using o
      have r := a1 o
      rw [if_pos e, hL]
      refine ⟨fun _ => ?_, fun h => ?_, fun h => absurd o h⟩
      · show 0 ≤ w64 (p.Code[j].A + ((keepL p c).length : Int)) ∧ w64 (p.Code[j].A + ((keepL p c).length : Int)) < _
        rw [w64_id (by omega) (by omega)]; omega
      · exact a2 h
    · have e : ¬ (p.Code[j].Op == 1) = true := by simpa using o
      rw [if_neg e]
      exact ⟨fun h => absurd h o, a2, a3⟩
  · rintro k ⟨cd, va⟩ hk ⟨h1, h2, h3, h4⟩
    replace h1 : CV (fuseK p c w).Loads.length cd := h1
    replace h2 : p.Code.length ≤ cd.length := h2
    replace h3 : va.length = k := h3
    replace h4 : ∀ v ∈ va, 0 ≤ v ∧ v < (cd.length : Int) := h4
    obtain ⟨a1, a2, a3⟩ := hccv k hk
    have hlast : w64 ((p.Code.length : Int) - 1) = (p.Code.length : Int) - 1 := w64_id (by omega) (by omega)
    generalize c.Code[k] = x at *
    unfold stC
    by_cases hb : (x.Op == 1 && (ix c.Loads x.A).Buffer == p.Store.Buffer) = true
    · rw [if_pos hb]
      refine ⟨h1, h2, by simp [h3], fun v hv => ?_⟩
      rcases List.mem_append.1 hv with hv | hv
      · exact h4 v hv
      · simp only [List.mem_singleton] at hv
        rw [hlast] at hv
        show 0 ≤ v ∧ v < (cd.length : Int)
        omega
    · rw [if_neg hb]
      have hva : ∀ i : Int, 0 ≤ i → i < (k : Int) → 0 ≤ ix va i ∧ ix va i < (cd.length : Int) := fun i i0 i1 => h4 _ (ix_mem' i0 (by omega))
      refine ⟨h1.app ?_, by show p.Code.length ≤ (cd ++ [_]).length; simp; omega, by simp [h3], fun v hv => ?_⟩
      · refine ⟨fun o => ?_, fun o => ?_, fun n1 n2 => ?_⟩
        · replace o : x.Op = 1 := o
          have r := a1 o
          have e : (x.Op == 1) = true := by simpa using o
          show 0 ≤ (if (x.Op == 1) = true then ix (toF p.Store.Buffer c.Loads 0) x.A else if (x.Op == 2) = true then x.A else ix va x.A) ∧ (if (x.Op == 1) = true then ix (toF p.Store.Buffer c.Loads 0) x.A else if (x.Op == 2) = true then x.A else ix va x.A) < _
          rw [if_pos e]
          have hbb : (ix c.Loads x.A).Buffer ≠ p.Store.Buffer := by
            intro q
            apply hb
            rw [e]; simpa using q
          obtain ⟨i, hi⟩ := Int.eq_ofNat_of_zero_le r.1
          rw [hi] at r hbb ⊢
          have hil : i < c.Loads.length := by omega
          have hlt : i < (toF p.Store.Buffer c.Loads 0).length := by rw [toF_len]; exact hil
          rw [ix_at hil] at hbb
          rw [ix_at hlt]
          have q1 := toF_val p.Store.Buffer c.Loads 0 _ (List.getElem_mem hlt)
          have q2 := toF_lt p.Store.Buffer c.Loads 0 i hil hbb _ (List.getElem?_eq_getElem hlt)
          have q3 : (c.Loads.filter fun a => a.Buffer != p.Store.Buffer).length = (keepL p c).length := rfl
          rw [hL]
          omega
        · replace o : x.Op = 3 ∨ x.Op = 4 ∨ x.Op = 5 := o
          have r := a2 o
          have e3 : (x.Op == 3 || x.Op == 4 || x.Op == 5) = true := by rcases o with h | h | h <;> rw [h] <;> rfl
          show 0 ≤ (if (x.Op == 3 || x.Op == 4 || x.Op == 5) = true then ix va x.B else x.B) ∧ (if (x.Op == 3 || x.Op == 4 || x.Op == 5) = true then ix va x.B else x.B) < _
          rw [if_pos e3]
          exact hva _ r.1 r.2
        · replace n1 : x.Op ≠ 1 := n1
          replace n2 : x.Op ≠ 2 := n2
          have r := a3 n1 n2
          show 0 ≤ (if (x.Op == 1) = true then ix (toF p.Store.Buffer c.Loads 0) x.A else if (x.Op == 2) = true then x.A else ix va x.A) ∧ (if (x.Op == 1) = true then ix (toF p.Store.Buffer c.Loads 0) x.A else if (x.Op == 2) = true then x.A else ix va x.A) < _
          rw [if_neg (by simpa using n1), if_neg (by simpa using n2)]
          exact hva _ r.1 r.2
      · show 0 ≤ v ∧ v < ((cd ++ [_]).length : Int)
        rcases List.mem_append.1 hv with hv | hv
        · have := h4 v hv; simp; omega
        · simp only [List.mem_singleton] at hv; subst hv; simp; omega
theorem fuse_ki (p c : Kernel) (w : List Int) {sz : List Int} (hp : KI sz p) (hc : KI sz c) (ho : okK (fuseK p c w) = true) : KI sz (fuseK p c w) := by
  obtain ⟨h1, h2⟩ := fuse_code p c w hp hc
  unfold okK at ho
  simp only [Bool.and_eq_true, decide_eq_true_eq] at ho
  have hp1 := hp.code1
  have hcv : ∀ j : Nat, j < (fuseK p c w).Code.length → CVx (fuseK p c w).Loads.length j (ix (fuseK p c w).Code (j : Int)) := fun j hj => by rw [ix_at hj]; exact h1 j hj
  refine ⟨hc.loops, ho.1, fun a ha => ?_, hc.store, by show 1 ≤ (codeC p c (keepL p c).length).1.length; omega, ho.2, hc.buf, fun j hj => (hcv j hj).1, fun j hj => (hcv j hj).2.1, fun j hj => (hcv j hj).2.2⟩
  have ha : a ∈ keepL p c ++ p.Loads.map (fun a => ⟨a.Buffer, a.Offset, scat w c.Loops.length a⟩) := ha
  rcases List.mem_append.1 ha with h | h
  · exact hc.steps a ((List.mem_filter.1 h).1)
  · obtain ⟨b, _, rfl⟩ := List.mem_map.1 h
    exact scat_len _ _ _
theorem usesF_mem {b : Int} {xs : List Access} {j : Nat} {u : Int} (h : u ∈ usesF b xs j) : (j : Int) ≤ u ∧ u < ((j + xs.length : Nat) : Int) := by
  induction xs generalizing j with
  | nil => cases h
  | cons a t ih =>
    unfold usesF at h
    split at h
    · rcases List.mem_cons.1 h with rfl | h
      · simp; omega
      · have := ih h; simp at this ⊢; omega
    · have := ih h; simp at this ⊢; omega
theorem usesF_len {b : Int} {xs : List Access} {j : Nat} : (usesF b xs j).length ≤ xs.length := by
  induction xs generalizing j with
  | nil => simp [usesF]
  | cons a t ih => unfold usesF; split <;> simp <;> have := @ih (j + 1) <;> omega
def stU (l : Nest) (p c : Kernel) (s : List Int) (k : Nat) (u : Int) : List Int ⊕ ((Nest × Bool) ⊕ List Int) := match PR p c (ix c.Loads u) with
  | none => .inr (.inl (l, false))
  | some o => if k = 0 ∨ o = s then .inl o else .inr (.inl (l, false))
theorem goU (l : Nest) (p c : Kernel) (xs : List Access) (j k : Nat) (s : List Int) (hx : ∀ i : Nat, ∀ h : i < xs.length, ix c.Loads ((j + i : Nat) : Int) = xs[i]) :
    goI (stU l p c) (fun s => .inr s) (usesF p.Store.Buffer xs j) k s = match allP p c xs (if k = 0 then none else some s) with | none => .inl (l, false) | some cur => .inr (cur.getD s) := by
  induction xs generalizing j k s with
  | nil =>
    unfold usesF allP goI
    by_cases hk : k = 0
    · rw [if_pos hk]; rfl
    · rw [if_neg hk]; rfl
  | cons a t ih =>
    have h0 := hx 0 (by simp)
    simp only [Nat.add_zero, List.getElem_cons_zero] at h0
    have ht : ∀ i : Nat, ∀ h : i < t.length, ix c.Loads ((j + 1 + i : Nat) : Int) = t[i] := fun i h => by
      have := hx (i + 1) (by simpa using h)
      rw [show j + 1 + i = j + (i + 1) by omega]; simpa using this
    unfold usesF allP
    by_cases e : a.Buffer = p.Store.Buffer
    · have e1 : (a.Buffer == p.Store.Buffer) = true := by simpa using e
      have e2 : (a.Buffer != p.Store.Buffer) = false := by simpa using e
      rw [if_pos e1, e2]
      simp only [Bool.false_eq_true, if_false]
      unfold goI
      have st : stU l p c s k (j : Int) = (match PR p c a with | none => .inr (.inl (l, false)) | some o => if k = 0 ∨ o = s then .inl o else .inr (.inl (l, false))) := by unfold stU; rw [h0]
      rw [st]
      cases hp : PR p c a with
      | none => rfl
      | some o =>
        simp only
        by_cases hc : k = 0 ∨ o = s
        · have hc' : (if k = 0 then none else some s : Option (List Int)) = none ∨ (if k = 0 then none else some s : Option (List Int)) = some o := by
            by_cases hk : k = 0
            · left; rw [if_pos hk]
            · right; rw [if_neg hk, hc.resolve_left hk]
          rw [if_pos hc, if_pos hc']
          simp only
          rw [ih (j + 1) (k + 1) o ht, if_neg (by omega)]
          cases hA : allP p c t (some o) with
          | none => rfl
          | some cur =>
            cases cur with
            | some w => rfl
            | none =>
              exfalso
              have key : ∀ (ys : List Access) (o : List Int), allP p c ys (some o) ≠ some none := by
                intro ys
                induction ys with
                | nil => intro o h; injection h with h; cases h
                | cons y t ih2 =>
                  intro o h
                  unfold allP at h
                  split at h
                  · exact ih2 o h
                  · split at h
                    · cases h
                    · split at h
                      · exact ih2 _ h
                      · cases h
              exact key t o hA
        · have hc' : ¬ ((if k = 0 then none else some s : Option (List Int)) = none ∨ (if k = 0 then none else some s : Option (List Int)) = some o) := by
            rintro (h | h)
            · split at h
              · exact hc (.inl ‹_›)
              · cases h
            · split at h
              · cases h
              · injection h with h; exact hc (.inr h.symm)
          rw [if_neg hc, if_neg hc']
    · have e1 : ¬ (a.Buffer == p.Store.Buffer) = true := by simpa using e
      have e2 : (a.Buffer != p.Store.Buffer) = true := by simpa using e
      rw [if_neg e1, e2]
      simp only [if_true]
      exact ih (j + 1) k s ht
end Go.Proofs.Ytbdchgofcejiiaa
