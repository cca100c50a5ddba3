import Derived.Test.YtbdchgofcejiiaaPL5
set_option linter.unusedVariables false
set_option linter.unusedSimpArgs false
namespace Go.Proofs.Ytbdchgofcejiiaa
open Go Go.Pg
def postG (n : Nat) (o : Option (List Int)) (res : (List Bool × Bool) ⊕ List Bool) : Prop := match o with
  | none => res = .inl ([], false)
  | some gl => ∃ g, res = .inr g ∧ Rg g n gl
def pIns (l : Nest) : Prop := l.Ins.length < big
theorem givL1 (l : Nest) (g : List Bool) (gl : List Int) (h : Rg g l.Sizes.length gl) (hb : l.Ins.length < big) :
    ∃ res, loopM (fun s : (List Bool) × Int => impl_Nest_given_L1 l s.1 s.2) (g, 0) = some res ∧ postG l.Sizes.length (givI' l.Sizes.length l.Ins gl) res := by
  refine ⟨_, loop_goI (S := List Bool × List Int) l.Ins (fun _ s => Rg s.1 l.Sizes.length s.2) (fun s : (List Bool) × Int => impl_Nest_given_L1 l s.1 s.2) (fun s i => (s.1, i))
    (fun s _ b => if (0 ≤ b ∧ b < (l.Sizes.length : Int)) ∧ ¬ b ∈ s.2 then .inl (s.1.set b.toNat true, s.2 ++ [b]) else .inr (.inl ([], false))) (fun s => .inr s.1) ?_ ?_ ?_ (g, gl) h, ?_⟩
  · intro s k hI hk
    show impl_Nest_given_L1 l s.1 (k : Int) = _
    unfold impl_Nest_given_L1
    rw [if_pos (lt_ hk), if_pos (inr_ hk), w64k (by omega), take_eq hI, bind_some']
    by_cases hc : (0 ≤ ix l.Ins (k : Int) ∧ ix l.Ins (k : Int) < (l.Sizes.length : Int)) ∧ ¬ ix l.Ins (k : Int) ∈ s.2
    · simp only [if_pos hc]; rfl
    · simp only [if_neg hc]; rfl
  · intro s k s' hI hk hs
    by_cases hc : (0 ≤ ix l.Ins (k : Int) ∧ ix l.Ins (k : Int) < (l.Sizes.length : Int)) ∧ ¬ ix l.Ins (k : Int) ∈ s.2
    · rw [if_pos hc] at hs; injection hs with hs; subst hs; exact hI.set hc.1.1 hc.1.2
    · rw [if_neg hc] at hs; cases hs
  · intro s _
    show impl_Nest_given_L1 l s.1 (l.Ins.length : Int) = _
    unfold impl_Nest_given_L1; simp only [nlt_, Bool.false_eq_true, if_false]
  · generalize 0 = j
    generalize l.Ins = bs
    induction bs generalizing g gl j with
    | nil => exact ⟨g, rfl, h⟩
    | cons b bs ih =>
      unfold goI givI'
      by_cases hc : (0 ≤ b ∧ b < (l.Sizes.length : Int)) ∧ ¬ b ∈ gl
      · simp only [if_pos hc]; exact ih _ _ (h.set hc.1.1 hc.1.2) _
      · simp only [if_neg hc]; rfl
theorem givL2 (l : Nest) (g : List Bool) (gl : List Int) (h : Rg g l.Sizes.length gl) (hb : l.Fixed.length < big) (hd : ∀ f ∈ l.Fixed, f.Data.length < big) :
    ∃ res, loopM (fun s : (List Bool) × Int => impl_Nest_given_L2 l s.1 s.2) (g, 0) = some res ∧ postG l.Sizes.length (givF l.Sizes l.Fixed gl) res := by
  refine ⟨_, loop_goI (S := List Bool × List Int) l.Fixed (fun _ s => Rg s.1 l.Sizes.length s.2) (fun s : (List Bool) × Int => impl_Nest_given_L2 l s.1 s.2) (fun s i => (s.1, i))
    (fun s _ f => if fixOk l.Sizes f = true ∧ ¬ f.Buffer ∈ s.2 then .inl (s.1.set f.Buffer.toNat true, s.2 ++ [f.Buffer]) else .inr (.inl ([], false))) (fun s => .inr s.1) ?_ ?_ ?_ (g, gl) h, ?_⟩
  · intro s k hI hk
    show impl_Nest_given_L2 l s.1 (k : Int) = _
    have hdk := hd _ (ix_mem hk)
    unfold impl_Nest_given_L2 fixOk
    rw [if_pos (lt_ hk), if_pos (inr_ hk), w64k (by omega), take_eq hI, bind_some']
    generalize ix l.Fixed (k : Int) = f at *
    by_cases hc : (0 ≤ f.Buffer ∧ f.Buffer < (l.Sizes.length : Int)) ∧ ¬ f.Buffer ∈ s.2
    · have q1 : decide (0 ≤ f.Buffer) = true := decide_eq_true hc.1.1
      have q2 : decide (f.Buffer < (l.Sizes.length : Int)) = true := decide_eq_true hc.1.2
      simp only [if_pos hc, q1, q2, Bool.true_and, Bool.not_true, Bool.false_or]
      rw [if_pos (fun _ => hc.1)]
      by_cases hq : (f.Data.length : Int) = ix l.Sizes f.Buffer
      · have e : ((f.Data.length : Int) != ix l.Sizes f.Buffer) = false := by simp [hq]
        rw [e, Bool.not_false, gc_t, allNums_eq _ hdk, bind_some']
        simp only [hq, decide_true, Bool.true_and, Bool.false_or]
        cases f.Data.all num <;> simp [hc.2]
      · have e : ((f.Data.length : Int) != ix l.Sizes f.Buffer) = true := by simp [hq]
        rw [e, Bool.not_true, gc_f, bind_some']
        simp [hq]
    · simp only [if_neg hc]
      rw [if_pos (by simp)]
      have hn : ¬ ((decide (0 ≤ f.Buffer) && decide (f.Buffer < (l.Sizes.length : Int)) && decide ((f.Data.length : Int) = ix l.Sizes f.Buffer) && f.Data.all num) = true ∧ ¬ f.Buffer ∈ s.2) := by
        rintro ⟨h1, h2⟩
        simp only [Bool.and_eq_true, decide_eq_true_eq] at h1
        exact hc ⟨h1.1.1, h2⟩
      rw [if_neg hn]
      simp [gc_f, bind_some']
  · intro s k s' hI hk hs
    by_cases hc : fixOk l.Sizes (ix l.Fixed (k : Int)) = true ∧ ¬ (ix l.Fixed (k : Int)).Buffer ∈ s.2
    · rw [if_pos hc] at hs; injection hs with hs; subst hs
      have h1 := hc.1
      unfold fixOk at h1
      simp only [Bool.and_eq_true, decide_eq_true_eq] at h1
      exact hI.set h1.1.1.1 h1.1.1.2
    · rw [if_neg hc] at hs; cases hs
  · intro s _
    show impl_Nest_given_L2 l s.1 (l.Fixed.length : Int) = _
    unfold impl_Nest_given_L2; simp only [nlt_, Bool.false_eq_true, if_false]
  · clear hd hb
    generalize 0 = j
    generalize l.Fixed = fs
    induction fs generalizing g gl j with
    | nil => exact ⟨g, rfl, h⟩
    | cons f fs ih =>
      unfold goI givF
      by_cases hc : fixOk l.Sizes f = true ∧ ¬ f.Buffer ∈ gl
      · simp only [if_pos hc]
        have h1 := hc.1
        unfold fixOk at h1
        simp only [Bool.and_eq_true, decide_eq_true_eq] at h1
        exact ih _ _ (h.set h1.1.1.1 h1.1.1.2) _
      · simp only [if_neg hc]; rfl
theorem given_eq (l : Nest) (h1 : l.Sizes.length ≤ 200) (h2 : l.Ins.length < big) (h3 : l.Fixed.length < big) (hd : ∀ f ∈ l.Fixed, f.Data.length < big) :
    ∃ r, impl_Nest_given l = some r ∧ match (givI' l.Sizes.length l.Ins []).bind (givF l.Sizes l.Fixed) with | none => r.2 = false | some gl => r.2 = true ∧ Rg r.1 l.Sizes.length gl := by
  unfold impl_Nest_given
  rw [if_pos (by omega)]
  have h0 : Rg (List.replicate (l.Sizes.length : Int).toNat false) l.Sizes.length [] := by
    refine ⟨by simp, fun j hj => ?_⟩
    rw [ix_at (by simpa using hj)]; simp
  obtain ⟨res, e1, p1⟩ := givL1 l _ _ h0 h2
  rw [e1, bind_some']
  cases hG : givI' l.Sizes.length l.Ins [] with
  | none =>
    rw [hG] at p1
    obtain rfl : res = .inl ([], false) := p1
    exact ⟨_, rfl, rfl⟩
  | some gl =>
    rw [hG] at p1
    obtain ⟨g, rfl, hR⟩ := p1
    obtain ⟨res2, e2, p2⟩ := givL2 l g gl hR h3 hd
    simp only [impl_Nest_given_J1, e2, bind_some', Option.bind_some]
    cases hF : givF l.Sizes l.Fixed gl with
    | none =>
      rw [hF] at p2
      obtain rfl : res2 = .inl ([], false) := p2
      exact ⟨_, rfl, rfl⟩
    | some gl2 =>
      rw [hF] at p2
      obtain ⟨g2, rfl, hR2⟩ := p2
      exact ⟨_, rfl, rfl, hR2⟩
/-- The lists that are given, as the other one walks them. -/
theorem spec_insL (l : Nest) (gl : List Int) (h1 : l.Ins.length ≤ 40) (hg : gl.length ≤ 1) : loopM (fun s : (List Int) × Int => spec_NestOk_L2 l s.1 s.2) (gl, 0) = some (match givI l.Ins gl with | none => .inl false | some g => .inr g) := by
  rw [loop_goI (S := List Int) l.Ins (fun k s => s.length ≤ 1 + k) (fun s : (List Int) × Int => spec_NestOk_L2 l s.1 s.2) (fun s i => (s, i)) (fun s _ b => if b ∈ s then .inr (.inl false) else .inl (s ++ [b])) (fun s => .inr s) ?_ ?_ ?_ gl (by omega)]
  · congr 1
    clear h1 hg
    generalize 0 = j
    generalize l.Ins = bs
    induction bs generalizing gl j with
    | nil => rfl
    | cons b bs ih =>
      unfold goI givI
      by_cases hc : b ∈ gl
      · simp only [if_pos hc]
      · simp only [if_neg hc]; exact ih _ _
  · intro s k hI hk
    show spec_NestOk_L2 l s (k : Int) = _
    unfold spec_NestOk_L2
    rw [if_pos (lt_ hk), if_pos (inr_ hk), w64k (by unfold big; omega), l7Has_eq _ _ (by unfold big; omega), bind_some']
    by_cases hc : ix l.Ins (k : Int) ∈ s
    · simp [hc]
    · rw [if_neg (by simpa using hc), if_pos (by simp; omega), if_neg hc]
  · intro s k s' hI hk hs
    split at hs
    · cases hs
    · injection hs with hs; subst hs; simp; omega
  · intro s _
    show spec_NestOk_L2 l s (l.Ins.length : Int) = _
    unfold spec_NestOk_L2; simp only [nlt_, Bool.false_eq_true, if_false]
theorem spec_fixL (l : Nest) (gl : List Int) (hg : gl.length ≤ 41) (hz : ∀ x ∈ l.Sizes, x ≤ 4096) (hb : l.Fixed.length ≤ 1048576) (hd : ∀ f ∈ l.Fixed, f.Data.length < big) :
    loopM (fun s : (List Int) × Int => spec_NestOk_L3 l s.1 s.2) (gl, 0) = some (match givF l.Sizes l.Fixed gl with | none => .inl false | some g => .inr g) := by
  rw [loop_goI (S := List Int) l.Fixed (fun k s => s.length ≤ 41 + k) (fun s : (List Int) × Int => spec_NestOk_L3 l s.1 s.2) (fun s i => (s, i)) (fun s _ f => if fixOk l.Sizes f = true ∧ ¬ f.Buffer ∈ s then .inl (s ++ [f.Buffer]) else .inr (.inl false)) (fun s => .inr s) ?_ ?_ ?_ gl (by omega)]
  · congr 1
    clear hb hg hd
    generalize 0 = j
    generalize l.Fixed = fs
    induction fs generalizing gl j with
    | nil => rfl
    | cons f fs ih =>
      unfold goI givF
      by_cases hc : fixOk l.Sizes f = true ∧ ¬ f.Buffer ∈ gl
      · simp only [if_pos hc]; exact ih _ _
      · simp only [if_neg hc]
  · intro s k hI hk
    show spec_NestOk_L3 l s (k : Int) = _
    have hdk := hd _ (ix_mem hk)
    unfold spec_NestOk_L3 fixOk
    rw [if_pos (lt_ hk), if_pos (inr_ hk), w64k (by unfold big; omega)]
    generalize ix l.Fixed (k : Int) = f at *
    by_cases b1 : f.Buffer < 0
    · have e1 : decide (f.Buffer < 0) = true := decide_eq_true b1
      have e2 : decide (0 ≤ f.Buffer) = false := decide_eq_false (by omega)
      simp [e1, e2, gc_f, bind_some']
    by_cases b2 : f.Buffer ≥ (l.Sizes.length : Int)
    · have e1 : decide (f.Buffer ≥ (l.Sizes.length : Int)) = true := decide_eq_true b2
      have e2 : decide (f.Buffer < (l.Sizes.length : Int)) = false := decide_eq_false (by omega)
      simp [e1, e2, gc_f, bind_some']
    have q1 : decide (f.Buffer < 0) = false := decide_eq_false b1
    have q2 : decide (f.Buffer ≥ (l.Sizes.length : Int)) = false := decide_eq_false b2
    have q3 : decide (0 ≤ f.Buffer) = true := decide_eq_true (by omega)
    have q4 : decide (f.Buffer < (l.Sizes.length : Int)) = true := decide_eq_true (by omega)
    rw [q1, q2, q3, q4]
    simp only [Bool.or_self, Bool.not_false, gc_t, l7Has_eq _ _ (show s.length < big by unfold big; omega), bind_some', Bool.false_or, Bool.true_and]
    by_cases hm : f.Buffer ∈ s
    · simp [hm, gc_f, bind_some']
    have hsz : ix l.Sizes f.Buffer ≤ 4096 := hz _ (ix_mem' (by omega) (by omega))
    simp only [hm, decide_false, Bool.false_or]
    rw [if_pos (fun _ => ⟨by omega, by omega⟩)]
    by_cases hq : (f.Data.length : Int) = ix l.Sizes f.Buffer
    · have e : ((f.Data.length : Int) != ix l.Sizes f.Buffer) = false := by simp [hq]
      have e' : decide ((f.Data.length : Int) = ix l.Sizes f.Buffer) = true := decide_eq_true hq
      rw [e, e']
      simp only [Bool.not_false, Bool.true_and, Bool.false_or]
      by_cases h0 : 0 < f.Data.length
      · have e3 : decide ((f.Data.length : Int) > 0) = true := decide_eq_true (by omega)
        have e4 : decide (0 < f.Data.length) = true := decide_eq_true h0
        have e5 : decide (f.Data.length ≤ 4096) = true := decide_eq_true (by omega)
        rw [e3, gc_t, rowOk_eq _ hdk, bind_some', e4, e5]
        simp only [Bool.and_true, Bool.true_and]
        cases f.Data.all num
        · simp
        · simp only [Bool.not_true, Bool.false_eq_true, if_false, not_false_eq_true, and_self, if_true]
          rw [if_pos (by simp; omega)]
      · have e3 : decide ((f.Data.length : Int) > 0) = false := decide_eq_false (by omega)
        have hnil : f.Data = [] := List.eq_nil_of_length_eq_zero (by omega)
        rw [e3, gc_f, bind_some', hnil]
        simp only [Bool.false_and, Bool.false_eq_true, if_false, List.all_nil, not_false_eq_true, and_self, if_true]
        rw [if_pos (by simp; omega)]
    · have e : ((f.Data.length : Int) != ix l.Sizes f.Buffer) = true := by simp [hq]
      have e' : decide ((f.Data.length : Int) = ix l.Sizes f.Buffer) = false := decide_eq_false hq
      rw [e, e']
      simp [gc_f, bind_some']
  · intro s k s' hI hk hs
    split at hs
    · injection hs with hs; subst hs; simp; omega
    · cases hs
  · intro s _
    show spec_NestOk_L3 l s (l.Fixed.length : Int) = _
    unfold spec_NestOk_L3; simp only [nlt_, Bool.false_eq_true, if_false]
end Go.Proofs.Ytbdchgofcejiiaa
