import Derived.Test.YtbdchgofcejiiaaPL13
set_option linter.unusedVariables false
set_option linter.unusedSimpArgs false
namespace Go.Proofs.Ytbdchgofcejiiaa
open Go Go.Pg
theorem toFG_ix (b : Int) (xs : List Access) (i : Int) (h0 : 0 ≤ i) (h1 : i < (xs.length : Int)) (hb : (ix xs i).Buffer ≠ b) : ix (toG b xs 0) i = ix (toF b xs 0) i := by
  obtain ⟨j, rfl⟩ := Int.eq_ofNat_of_zero_le h0
  have hj : j < xs.length := by omega
  rw [ix_at hj] at hb
  have := toFG b xs 0 j hj hb
  rw [ix_at (by rw [toG_len]; exact hj), ix_at (by rw [toF_len]; exact hj)]
  rw [List.getElem?_eq_getElem (by rw [toF_len]; exact hj), List.getElem?_eq_getElem (by rw [toG_len]; exact hj)] at this
  exact (Option.some.inj this).symm
theorem fused_L5 (p c : Kernel) (x0 : List Calc) (nb : Bool) {sz : List Int} (hp : KI sz p) (hc : KI sz c) (hx : x0.length ≤ 60) :
    ∃ nb', loopM (fun s : (List Calc) × Bool × (List Int) × Int => impl_fused_L5 p c (toG p.Store.Buffer c.Loads 0) s.1 s.2.1 s.2.2.1 s.2.2.2) (x0, nb, (List.replicate (c.Code.length : Int).toNat (0 : Int)), 0) = some ((c.Code.foldl (stC c p.Store.Buffer (toF p.Store.Buffer c.Loads 0) (w64 ((p.Code.length : Int) - 1))) (x0, [])).1, nb') := by
  have hcc := hc.code2
  have hcl := hc.loads
  have htl := toF_len p.Store.Buffer c.Loads 0
  have e := loop_goI (S := (List Calc × List Int) × Bool) c.Code (fun k s => s.1.1.length ≤ 60 + k ∧ s.1.2.length = k) (fun s : (List Calc) × Bool × (List Int) × Int => impl_fused_L5 p c (toG p.Store.Buffer c.Loads 0) s.1 s.2.1 s.2.2.1 s.2.2.2) (fun s i => (s.1.1, s.2, s.1.2 ++ List.replicate (c.Code.length - s.1.2.length) 0, i))
    (fun s _ x => .inl (stC c p.Store.Buffer (toF p.Store.Buffer c.Loads 0) (w64 ((p.Code.length : Int) - 1)) s.1 x, if x.Op == 1 && (ix c.Loads x.A).Buffer == p.Store.Buffer then s.2 else false)) (fun s => (s.1.1, s.2)) (fun s k hI hk => by
      obtain ⟨⟨cd, va⟩, nb0⟩ := s
      obtain ⟨i0, i1⟩ := hI
      replace i0 : cd.length ≤ 60 + k := i0
      replace i1 : va.length = k := i1
      show impl_fused_L5 p c (toG p.Store.Buffer c.Loads 0) cd nb0 (va ++ List.replicate (c.Code.length - va.length) 0) (k : Int) = _
      have h1 := hc.op1 k hk
      have h3 := hc.op3 k hk
      have hn := hc.opn k hk
      unfold impl_fused_L5 impl_fused_J12 impl_fused_J13 stC
      generalize ix c.Code (k : Int) = x at *
      rw [if_pos (lt_ hk), if_pos (inr_ hk), w64k (by unfold big; omega), if_pos (fun h => h1 (by simpa using h))]
      simp only [Int.toNat_natCast, List.length_replicate]
      have l2 : ∀ v : Calc, cd.length + ([v] : List Calc).length ≤ 5864062014805 := fun v => by simp; omega
      have rk : (0 : Int) ≤ (k : Int) ∧ (k : Int) < (c.Code.length : Int) := inr_ hk
      have hset : ∀ v : Int, (va ++ List.replicate (c.Code.length - va.length) 0).set k v = (va ++ [v]) ++ List.replicate (c.Code.length - (va ++ [v]).length) 0 := fun v => by
        rw [show (va ++ [v]).length = k + 1 by simp [i1], i1]; exact set_rep i1 hk v
      simp only [if_pos rk, if_pos (l2 _), nm_bind, hset]
      by_cases o1 : x.Op = 1
      · have e1 : (x.Op == 1) = true := by simpa using o1
        have r1 := h1 o1
        rw [e1]
        simp only [Bool.true_and]
        cases hb : (ix c.Loads x.A).Buffer == p.Store.Buffer
        · have e3 : (x.Op == 3 || x.Op == 4 || x.Op == 5) = false := by rw [o1]; rfl
          simp only [Bool.false_eq_true, if_false, if_true, e3]
          rw [if_pos r1, toFG_ix _ _ _ r1.1 r1.2 (by simpa using hb)]
        · simp only [if_true]
      have e1 : (x.Op == 1) = false := beq_eq_false_iff_ne.2 o1
      rw [e1]
      simp only [Bool.false_eq_true, if_false, Bool.false_and]
      by_cases o2 : x.Op = 2
      · have e2 : (x.Op == 2) = true := by simpa using o2
        have e2' : (x.Op != 2) = false := by simpa using o2
        have e3 : (x.Op == 3 || x.Op == 4 || x.Op == 5) = false := by rw [o2]; rfl
        rw [e2, e3, e2']
        simp only [if_true, Bool.false_eq_true, if_false]
      have e2 : (x.Op == 2) = false := beq_eq_false_iff_ne.2 o2
      have e2' : (x.Op != 2) = true := by simpa using o2
      have rn := hn o1 o2
      rw [e2, e2']
      simp only [Bool.false_eq_true, if_false, if_true]
      have rA : 0 ≤ x.A ∧ x.A < (c.Code.length : Int) := by omega
      have rA' : x.A < (va.length : Int) := by omega
      rw [ix_app rn.1 rA']
      by_cases o3 : x.Op = 3 ∨ x.Op = 4 ∨ x.Op = 5
      · have r3 := h3 o3
        have rB : 0 ≤ x.B ∧ x.B < (c.Code.length : Int) := by omega
        have e3 : (x.Op == 3 || x.Op == 4 || x.Op == 5) = true := by rcases o3 with h | h | h <;> rw [h] <;> rfl
        rw [e3, ix_app r3.1 (by omega : x.B < (va.length : Int))]
        simp only [if_true, if_pos rA, if_pos rB]
      · have q3 : (x.Op == 3) = false := beq_eq_false_iff_ne.2 (fun e => o3 (.inl e))
        have q4 : (x.Op == 4) = false := beq_eq_false_iff_ne.2 (fun e => o3 (.inr (.inl e)))
        have q5 : (x.Op == 5) = false := beq_eq_false_iff_ne.2 (fun e => o3 (.inr (.inr e)))
        rw [q3, q4, q5]
        simp only [Bool.or_self, Bool.false_eq_true, if_false, if_pos rA]) (fun s k s' hI hk hs => by
    injection hs with hs; subst hs
    have := @stC_len c p.Store.Buffer (toF p.Store.Buffer c.Loads 0) (w64 ((p.Code.length : Int) - 1)) s.1 (ix c.Code (k : Int))
    obtain ⟨i0, i1⟩ := hI
    exact ⟨by show (stC _ _ _ _ _ _).1.length ≤ _; omega, by show (stC _ _ _ _ _ _).2.length = _; omega⟩) (fun s hI => by
    show impl_fused_L5 p c (toG p.Store.Buffer c.Loads 0) s.1.1 s.2 (s.1.2 ++ List.replicate (c.Code.length - s.1.2.length) 0) (c.Code.length : Int) = _
    unfold impl_fused_L5; simp only [nlt_, Bool.false_eq_true, if_false]) ((x0, []), nb) ⟨hx, rfl⟩
  simp only [List.nil_append, List.length_nil, Nat.sub_zero] at e
  rw [Int.toNat_natCast, e, goI_foldl (fun (s : (List Calc × List Int) × Bool) x => (stC c p.Store.Buffer (toF p.Store.Buffer c.Loads 0) (w64 ((p.Code.length : Int) - 1)) s.1 x, if x.Op == 1 && (ix c.Loads x.A).Buffer == p.Store.Buffer then s.2 else false))]
  have key : ∀ (xs : List Calc) (s : (List Calc × List Int) × Bool), (xs.foldl (fun (s : (List Calc × List Int) × Bool) x => (stC c p.Store.Buffer (toF p.Store.Buffer c.Loads 0) (w64 ((p.Code.length : Int) - 1)) s.1 x, if x.Op == 1 && (ix c.Loads x.A).Buffer == p.Store.Buffer then s.2 else false)) s).1 = xs.foldl (stC c p.Store.Buffer (toF p.Store.Buffer c.Loads 0) (w64 ((p.Code.length : Int) - 1))) s.1 := by
    intro xs
    induction xs with
    | nil => intro s; rfl
    | cons x t ih => intro s; simp only [List.foldl_cons]; rw [ih]
  refine ⟨(c.Code.foldl (fun (s : (List Calc × List Int) × Bool) x => (stC c p.Store.Buffer (toF p.Store.Buffer c.Loads 0) (w64 ((p.Code.length : Int) - 1)) s.1 x, if x.Op == 1 && (ix c.Loads x.A).Buffer == p.Store.Buffer then s.2 else false)) ((x0, []), nb)).2, ?_⟩
  have := key c.Code ((x0, []), nb)
  simp only at this
  rw [← this]
def okK (k : Kernel) : Bool := decide (k.Loads.length ≤ 30) && decide (k.Code.length ≤ 60)
theorem fused_eq (p c : Kernel) {sz : List Int} (hp : KI sz p) (hc : KI sz c) : impl_fused p c = some (match allP p c c.Loads none with | none => (dk, false) | some cur => (fuseK p c (cur.getD []), okK (fuseK p c (cur.getD [])))) := by
  have hcl := hc.loads
  have hcc := hc.code2
  unfold impl_fused
  rw [if_pos (by omega), fused_L1 p c hp hc, bind_some']
  cases hA : allP p c c.Loads none with
  | none => rfl
  | some cur =>
    have hw := allP_ok hA (fun w h => by cases h)
    have hw1 : (cur.getD []).length ≤ p.Loops.length ∧ ∀ x ∈ cur.getD [], 0 ≤ x ∧ x < (c.Loops.length : Int) := by
      cases cur with
      | none => simp
      | some w => have := hw w rfl; exact ⟨by simp only [Option.getD_some]; omega, this.2⟩
    simp only [impl_fused_J3]
    obtain ⟨nb3, e2⟩ := fused_L2 p c (cur.getD []) (keepL p c) cur.isNone (keepL p c).isEmpty hp hc hw1.1 hw1.2 (by have := keep_len p c; omega)
    rw [e2, bind_some']
    simp only [impl_fused_J6]
    obtain ⟨nb4, e4⟩ := fused_L4 p (keepL p c) hp
    rw [e4, bind_some']
    simp only [impl_fused_J9]
    obtain ⟨nb5, e5⟩ := fused_L5 p c (p.Code.map (shift (keepL p c).length)) nb4 hp hc (by rw [List.length_map]; exact hp.code2)
    rw [if_pos (by omega), e5, bind_some']
    have d1 : ∀ k : Kernel, decide ((k.Loads.length : Int) ≤ 30) = decide (k.Loads.length ≤ 30) := fun k => decide_eq_decide.2 (by omega)
    have d2 : ∀ k : Kernel, decide ((k.Code.length : Int) ≤ 60) = decide (k.Code.length ≤ 60) := fun k => decide_eq_decide.2 (by omega)
    unfold impl_fused_J14 okK
    rw [← d1, ← d2]
    rfl
end Go.Proofs.Ytbdchgofcejiiaa
