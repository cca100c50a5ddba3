import Derived.Test.YtbdchgofcejiiaaPL6
set_option linter.unusedVariables false
set_option linter.unusedSimpArgs false
namespace Go.Proofs.Ytbdchgofcejiiaa
open Go Go.Pg
def sumK (sizes gl : List Int) : List Kernel → Int → Option Int
  | [], s => some s
  | k :: ks, s => if kerB sizes k = true ∧ ¬ k.Store.Buffer ∈ gl then sumK sizes gl ks (s + (prodL k.Loops 1).getD 0) else none
def inN (n : Int) (xs : List Int) : Bool := xs.all fun x => decide (0 ≤ x) && decide (x < n)
def szB' (x : Int) : Bool := decide (0 ≤ x) && decide (x ≤ 4096)
def nestB (l : Nest) : Bool :=
  decide (l.Sizes.length ≤ 200) && decide (l.Ins.length ≤ 40) && decide (l.Outs.length ≤ 40) && decide (l.Kernels.length ≤ 400) && inN l.Sizes.length l.Ins && inN l.Sizes.length l.Outs && l.Sizes.all szB' &&
  (match (givI l.Ins []).bind (givF l.Sizes l.Fixed) with
    | none => false
    | some gl => match sumK l.Sizes gl l.Kernels 0 with
      | none => false
      | some s => decide (s ≤ 1000000))
theorem ker_prod {sizes : List Int} {k : Kernel} (h : kerB sizes k = true) : 1 ≤ (prodL k.Loops 1).getD 0 ∧ (prodL k.Loops 1).getD 0 ≤ 65536 := by
  unfold kerB at h
  cases hp : prodL k.Loops 1 with
  | none => rw [hp] at h; simp at h
  | some r =>
    have := prodL_pos (by decide) (by decide) hp
    exact ⟨this.1, this.2.1⟩
theorem spec_sumL (l : Nest) (gl : List Int) (hg : gl.length < big) (hk : l.Kernels.length ≤ 400) (hz : ∀ x ∈ l.Sizes, x ≤ 4096) (hb : ∀ k ∈ l.Kernels, k.Loops.length < big) :
    loopM (fun s : Int × Int => spec_NestOk_L4 l gl s.1 s.2) (0, 0) = some (match sumK l.Sizes gl l.Kernels 0 with | none => .inl false | some s => .inr s) := by
  rw [loop_goI (S := Int) l.Kernels (fun k s => 0 ≤ s ∧ s ≤ k * 65536) (fun s : Int × Int => spec_NestOk_L4 l gl s.1 s.2) (fun s i => (s, i))
    (fun s _ k => if kerB l.Sizes k = true ∧ ¬ k.Store.Buffer ∈ gl then .inl (s + (prodL k.Loops 1).getD 0) else .inr (.inl false)) (fun s => .inr s) ?_ ?_ ?_ 0 (by omega)]
  · congr 1
    have key : ∀ (ks : List Kernel) (s : Int) (j : Nat), goI (R := Bool ⊕ Int) (fun s _ k => if kerB l.Sizes k = true ∧ ¬ k.Store.Buffer ∈ gl then .inl (s + (prodL k.Loops 1).getD 0) else .inr (.inl false)) (fun s => .inr s) ks j s = (match sumK l.Sizes gl ks s with | none => .inl false | some s => .inr s) := by
      intro ks
      induction ks with
      | nil => intro s j; rfl
      | cons k ks ih =>
        intro s j
        unfold goI sumK
        by_cases hc : kerB l.Sizes k = true ∧ ¬ k.Store.Buffer ∈ gl
        · simp only [if_pos hc]; exact ih _ _
        · simp only [if_neg hc]
    exact key _ _ _
  · rintro s k ⟨i0, i1⟩ hkk
    show spec_NestOk_L4 l gl s (k : Int) = _
    have hbk := hb _ (ix_mem hkk)
    unfold spec_NestOk_L4
    rw [if_pos (lt_ hkk), if_pos (inr_ hkk), w64k (by unfold big; omega), spec_ker_eq _ _ hz, bind_some']
    generalize ix l.Kernels (k : Int) = K at *
    cases hK : kerB l.Sizes K
    · simp [gc_f, bind_some']
    · have hp := ker_prod hK
      rw [prod_eq _ hbk]
      simp only [Bool.not_true, Bool.not_false, gc_t, l7Has_eq _ _ hg, bind_some', Bool.false_or]
      by_cases hm : K.Store.Buffer ∈ gl
      · simp [hm]
      · rw [w64_id (by omega) (by omega)]
        simp [hm]
  · rintro s k s' ⟨i0, i1⟩ hkk hs
    split at hs
    · rename_i hc
      have hp := ker_prod hc.1
      injection hs with hs; subst hs; omega
    · cases hs
  · intro s _
    show spec_NestOk_L4 l gl s (l.Kernels.length : Int) = _
    unfold spec_NestOk_L4; simp only [nlt_, Bool.false_eq_true, if_false]
theorem impl_sumL (l : Nest) (r : List Bool × Bool) (gl : List Int) (hg : Rg r.1 l.Sizes.length gl) (hk : l.Kernels.length ≤ 400) (hz : ∀ x ∈ l.Sizes, x ≤ 4096) (hb : ∀ k ∈ l.Kernels, k.Loops.length < big) :
    loopM (fun s : Int × Int => impl_NestOk_L3 l r s.1 s.2) (0, 0) = some (match sumK l.Sizes gl l.Kernels 0 with | none => .inl false | some s => .inr s) := by
  rw [loop_goI (S := Int) l.Kernels (fun k s => 0 ≤ s ∧ s ≤ k * 65536) (fun s : Int × Int => impl_NestOk_L3 l r s.1 s.2) (fun s i => (s, i))
    (fun s _ k => if kerB l.Sizes k = true ∧ ¬ k.Store.Buffer ∈ gl then .inl (s + (prodL k.Loops 1).getD 0) else .inr (.inl false)) (fun s => .inr s) ?_ ?_ ?_ 0 (by omega)]
  · congr 1
    have key : ∀ (ks : List Kernel) (s : Int) (j : Nat), goI (R := Bool ⊕ Int) (fun s _ k => if kerB l.Sizes k = true ∧ ¬ k.Store.Buffer ∈ gl then .inl (s + (prodL k.Loops 1).getD 0) else .inr (.inl false)) (fun s => .inr s) ks j s = (match sumK l.Sizes gl ks s with | none => .inl false | some s => .inr s) := by
      intro ks
      induction ks with
      | nil => intro s j; rfl
      | cons k ks ih =>
        intro s j
        unfold goI sumK
        by_cases hc : kerB l.Sizes k = true ∧ ¬ k.Store.Buffer ∈ gl
        · simp only [if_pos hc]; exact ih _ _
        · simp only [if_neg hc]
    exact key _ _ _
  · rintro s k ⟨i0, i1⟩ hkk
    show impl_NestOk_L3 l r s (k : Int) = _
    have hbk := hb _ (ix_mem hkk)
    unfold impl_NestOk_L3
    obtain ⟨n, e1, e2⟩ := impl_ker_eq l (ix l.Kernels (k : Int)) r.1 hg.1 hz hbk
    rw [if_pos (lt_ hkk), if_pos (inr_ hkk), w64k (by unfold big; omega), e1, bind_some']
    generalize ix l.Kernels (k : Int) = K at *
    cases hK : kerB l.Sizes K
    · simp
    · have hp := ker_prod hK
      have hbuf : ix r.1 K.Store.Buffer = decide (K.Store.Buffer ∈ gl) := by
        have h1 := hK
        unfold kerB accB at h1
        simp only [Bool.and_eq_true, decide_eq_true_eq] at h1
        obtain ⟨j, hj⟩ := Int.eq_ofNat_of_zero_le h1.1.2.1.1
        rw [hj]
        exact hg.2 j (by omega)
      rw [hbuf]
      by_cases hm : K.Store.Buffer ∈ gl
      · simp [hm]
      · rw [e2 hK, w64_id (by omega) (by omega)]
        simp [hm]
  · rintro s k s' ⟨i0, i1⟩ hkk hs
    split at hs
    · rename_i hc
      have hp := ker_prod hc.1
      injection hs with hs; subst hs; omega
    · cases hs
  · intro s _
    show impl_NestOk_L3 l r s (l.Kernels.length : Int) = _
    unfold impl_NestOk_L3; simp only [nlt_, Bool.false_eq_true, if_false]
structure Sm (l : Nest) : Prop where
  sizes : l.Sizes.length ≤ 1048576
  ins : l.Ins.length ≤ 1048576
  outs : l.Outs.length ≤ 1048576
  fixed : l.Fixed.length ≤ 1048576
  kers : l.Kernels.length ≤ 1048576
  data : ∀ f ∈ l.Fixed, f.Data.length ≤ 1048576
  loops : ∀ k ∈ l.Kernels, k.Loops.length ≤ 1048576
  loads : ∀ k ∈ l.Kernels, k.Loads.length ≤ 1048576
  steps : ∀ k ∈ l.Kernels, ∀ a ∈ k.Loads, a.Steps.length ≤ 1048576
  store : ∀ k ∈ l.Kernels, k.Store.Steps.length ≤ 1048576
  code : ∀ k ∈ l.Kernels, k.Code.length ≤ 1048576
theorem givI_len {bs g r : List Int} (h : givI bs g = some r) : r.length = g.length + bs.length := by
  induction bs generalizing g with
  | nil => injection h with h; subst h; rfl
  | cons b bs ih =>
    unfold givI at h
    split at h
    · cases h
    · have := ih h; simp at this ⊢; omega
theorem givF_len {sizes : List Int} {fs : List Fix} {g r : List Int} (h : givF sizes fs g = some r) : r.length = g.length + fs.length := by
  induction fs generalizing g with
  | nil => injection h with h; subst h; rfl
  | cons b bs ih =>
    unfold givF at h
    split at h
    · have := ih h; simp at this ⊢; omega
    · cases h
theorem szL (l : Nest) (f : Int → Option (Int ⊕ (Bool ⊕ Unit))) (hb : l.Sizes.length < big) (hf : ∀ i, f i = if (decide (i < (l.Sizes.length : Int))) = true then (if (0 ≤ i ∧ i < (l.Sizes.length : Int)) then if ((decide ((ix l.Sizes i) < (0 : Int))) || (decide ((ix l.Sizes i) > (4096 : Int)))) = true then (some (.inr (.inl false))) else (some (.inl (w64 (i + (1 : Int))))) else none) else (some (.inr (.inr ())))) :
    loopM f 0 = some (if l.Sizes.all szB' then .inr () else .inl false) := by
  refine loop_all l.Sizes f (fun i => i) szB' (.inl false) (.inr ()) (fun k hk => ?_) ?_
  · rw [hf, if_pos (lt_ hk), if_pos (inr_ hk), w64k (by omega)]
    unfold szB'
    by_cases q1 : ix l.Sizes (k : Int) < 0 <;> by_cases q2 : ix l.Sizes (k : Int) ≤ 4096
    · simp [q1, Int.not_le.2 q1]
    · simp [q1, Int.not_le.2 q1]
    · simp [q1, q2, Int.not_lt.1 q1, Int.not_lt.2 q2]
    · simp [q1, q2, Int.not_le.1 q2]
  · rw [hf]; simp only [nlt_, Bool.false_eq_true, if_false]
theorem szs {l : Nest} (h : l.Sizes.all szB' = true) : ∀ x ∈ l.Sizes, x ≤ 4096 := by
  intro x hx
  have := List.all_eq_true.1 h x hx
  unfold szB' at this
  simp only [Bool.and_eq_true, decide_eq_true_eq] at this
  exact this.2
theorem spec_nest_eq (l : Nest) (hs : Sm l) : spec_NestOk l = some (nestB l) := by
  unfold spec_NestOk nestB
  by_cases h1 : l.Sizes.length > 200
  · have e : decide ((l.Sizes.length : Int) > 200) = true := decide_eq_true (by omega)
    have d : decide (l.Sizes.length ≤ 200) = false := decide_eq_false (by omega)
    simp [e, d, gc_f, bind_some']
  by_cases h2 : l.Ins.length > 40
  · have e : decide ((l.Ins.length : Int) > 40) = true := decide_eq_true (by omega)
    have d : decide (l.Ins.length ≤ 40) = false := decide_eq_false (by omega)
    simp [e, d, gc_f, bind_some']
  by_cases h3 : l.Outs.length > 40
  · have e : decide ((l.Outs.length : Int) > 40) = true := decide_eq_true (by omega)
    have d : decide (l.Outs.length ≤ 40) = false := decide_eq_false (by omega)
    simp [e, d, gc_f, bind_some']
  by_cases h4 : l.Kernels.length > 400
  · have e : decide ((l.Kernels.length : Int) > 400) = true := decide_eq_true (by omega)
    have d : decide (l.Kernels.length ≤ 400) = false := decide_eq_false (by omega)
    simp [e, d, gc_f, bind_some']
  have e1 : decide ((l.Sizes.length : Int) > 200) = false := decide_eq_false (by omega)
  have e2 : decide ((l.Ins.length : Int) > 40) = false := decide_eq_false (by omega)
  have e3 : decide ((l.Outs.length : Int) > 40) = false := decide_eq_false (by omega)
  have e4 : decide ((l.Kernels.length : Int) > 400) = false := decide_eq_false (by omega)
  have d1 : decide (l.Sizes.length ≤ 200) = true := decide_eq_true (by omega)
  have d2 : decide (l.Ins.length ≤ 40) = true := decide_eq_true (by omega)
  have d3 : decide (l.Outs.length ≤ 40) = true := decide_eq_true (by omega)
  have d4 : decide (l.Kernels.length ≤ 400) = true := decide_eq_true (by omega)
  rw [e1, e2, e3, e4, d1, d2, d3, d4]
  simp only [Bool.or_self, Bool.not_false, gc_t, within_eq _ _ (show l.Ins.length < big by unfold big; omega), within_eq _ _ (show l.Outs.length < big by unfold big; omega), bind_some', Bool.false_or, Bool.true_and]
  show (gcall (!(!(inN l.Sizes.length l.Ins))) (some (inN l.Sizes.length l.Outs))).bind _ = _
  cases hi : inN l.Sizes.length l.Ins
  · have hi' : (l.Ins.all fun x => decide (0 ≤ x) && decide (x < (l.Sizes.length : Int))) = false := hi
    simp [gc_f, bind_some', hi']
  have hi' : (l.Ins.all fun x => decide (0 ≤ x) && decide (x < (l.Sizes.length : Int))) = true := hi
  simp only [Bool.not_true, Bool.not_false, gc_t, bind_some', hi', Bool.false_or, Bool.true_and]
  cases ho : inN l.Sizes.length l.Outs
  · rfl
  simp only [Bool.not_true, Bool.false_eq_true, if_false, Bool.true_and]
  rw [szL l (fun s => spec_NestOk_L1 l s) (by unfold big; omega) (fun _ => rfl), bind_some']
  cases hz : l.Sizes.all szB'
  · rfl
  have hz' := szs hz
  simp only [if_true, spec_NestOk_J1, Bool.true_and]
  rw [spec_insL l [] (by omega) (by simp), bind_some']
  cases hI : givI l.Ins [] with
  | none => rfl
  | some g =>
    have hgl := givI_len hI
    have hdat : ∀ f ∈ l.Fixed, f.Data.length < big := fun f hf => by have := hs.data f hf; unfold big; omega
    simp only [spec_NestOk_J2, Option.bind_some]
    rw [spec_fixL l g (by simp at hgl; omega) hz' hs.fixed hdat, bind_some']
    cases hF : givF l.Sizes l.Fixed g with
    | none => rfl
    | some g2 =>
      have hgl2 := givF_len hF
      have := hs.fixed
      simp only [spec_NestOk_J3]
      rw [spec_sumL l g2 (by simp at hgl; unfold big; omega) (by omega) hz' (fun k hk => by have := hs.loops k hk; unfold big; omega), bind_some']
      cases sumK l.Sizes g2 l.Kernels 0 <;> rfl
theorem impl_nest_eq (l : Nest) (hs : Sm l) : impl_NestOk l = some (nestB l) := by
  unfold impl_NestOk nestB
  by_cases h1 : l.Sizes.length > 200
  · have e : decide ((l.Sizes.length : Int) > 200) = true := decide_eq_true (by omega)
    have d : decide (l.Sizes.length ≤ 200) = false := decide_eq_false (by omega)
    simp [e, d]
  by_cases h2 : l.Ins.length > 40
  · have e : decide ((l.Ins.length : Int) > 40) = true := decide_eq_true (by omega)
    have d : decide (l.Ins.length ≤ 40) = false := decide_eq_false (by omega)
    simp [e, d]
  by_cases h3 : l.Outs.length > 40
  · have e : decide ((l.Outs.length : Int) > 40) = true := decide_eq_true (by omega)
    have d : decide (l.Outs.length ≤ 40) = false := decide_eq_false (by omega)
    simp [e, d]
  by_cases h4 : l.Kernels.length > 400
  · have e : decide ((l.Kernels.length : Int) > 400) = true := decide_eq_true (by omega)
    have d : decide (l.Kernels.length ≤ 400) = false := decide_eq_false (by omega)
    simp [e, d]
  have e1 : decide ((l.Sizes.length : Int) > 200) = false := decide_eq_false (by omega)
  have e2 : decide ((l.Ins.length : Int) > 40) = false := decide_eq_false (by omega)
  have e3 : decide ((l.Outs.length : Int) > 40) = false := decide_eq_false (by omega)
  have e4 : decide ((l.Kernels.length : Int) > 400) = false := decide_eq_false (by omega)
  have d1 : decide (l.Sizes.length ≤ 200) = true := decide_eq_true (by omega)
  have d2 : decide (l.Ins.length ≤ 40) = true := decide_eq_true (by omega)
  have d3 : decide (l.Outs.length ≤ 40) = true := decide_eq_true (by omega)
  have d4 : decide (l.Kernels.length ≤ 400) = true := decide_eq_true (by omega)
  rw [e1, e2, e3, e4, d1, d2, d3, d4]
  simp only [Bool.or_self, Bool.false_eq_true, if_false, Bool.true_and]
  rw [szL l (fun s => impl_NestOk_L1 l s) (by unfold big; omega) (fun _ => rfl), bind_some']
  cases hz : l.Sizes.all szB'
  · simp
  have hz' := szs hz
  simp only [if_true, impl_NestOk_J1, Bool.and_true]
  rw [loop_all l.Outs (fun s : Int => impl_NestOk_L2 l s) (fun i => i) (fun x => decide (0 ≤ x) && decide (x < (l.Sizes.length : Int))) (.inl false) (.inr ()) (fun k hk => by
    unfold impl_NestOk_L2
    rw [if_pos (lt_ hk), if_pos (inr_ hk), w64k (by unfold big; omega)]
    by_cases q1 : ix l.Outs (k : Int) < 0 <;> by_cases q2 : ix l.Outs (k : Int) < (l.Sizes.length : Int)
    · simp [q1, q2, Int.not_le.2 q1]
    · simp [q1, q2, Int.not_le.2 q1]
    · simp [q1, q2, Int.not_lt.1 q1, Int.not_le.2 q2]
    · simp [q1, q2, Int.not_lt.1 q2]) (by unfold impl_NestOk_L2; simp only [nlt_, Bool.false_eq_true, if_false])]
  rw [bind_some']
  show (match (if inN l.Sizes.length l.Outs = true then _ else _ : Bool ⊕ Unit) with | .inl e => some e | .inr e => impl_NestOk_J2 l) = _
  cases ho : inN l.Sizes.length l.Outs
  · simp
  simp only [if_true, impl_NestOk_J2, Bool.and_true]
  obtain ⟨r, er, pr⟩ := given_eq l (by omega) (by unfold big; omega) (by have := hs.fixed; unfold big; omega) (fun f hf => by have := hs.data f hf; unfold big; omega)
  rw [er, bind_some']
  rw [givI_eq] at pr
  change (match (if inN l.Sizes.length l.Ins = true then givI l.Ins [] else none).bind (givF l.Sizes l.Fixed) with | none => r.2 = false | some gl => r.2 = true ∧ Rg r.1 l.Sizes.length gl) at pr
  cases hi : inN l.Sizes.length l.Ins
  · rw [hi] at pr
    have pr : r.2 = false := pr
    simp [pr]
  rw [hi] at pr
  simp only [if_true] at pr
  simp only [Bool.true_and]
  cases hG : (givI l.Ins []).bind (givF l.Sizes l.Fixed) with
  | none =>
    rw [hG] at pr
    have pr : r.2 = false := pr
    simp [pr]
  | some gl =>
    rw [hG] at pr
    obtain ⟨p1, p2⟩ := pr
    rw [p1]
    simp only [Bool.not_true, Bool.false_eq_true, if_false]
    rw [impl_sumL l r gl p2 (by omega) hz' (fun k hk => by have := hs.loops k hk; unfold big; omega), bind_some']
    cases sumK l.Sizes gl l.Kernels 0 <;> rfl
end Go.Proofs.Ytbdchgofcejiiaa
