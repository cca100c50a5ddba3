import Derived.Test.YtbdchgofcejiiaaPL18
set_option linter.unusedVariables false
set_option linter.unusedSimpArgs false
namespace Go.Proofs.Ytbdchgofcejiiaa
open Go Go.Pg
theorem cnt_one {α : Type} (c : Nat) (xs : List α) : cnt (fun _ => c) xs = c * xs.length := by
  induction xs with
  | nil => simp [cnt]
  | cons x t ih => rw [cnt_cons, ih, List.length_cons, Nat.mul_succ]; omega
theorem nonneg_ (k : Nat) : decide ((k : Int) < 0) = false := decide_eq_false (by omega)
theorem len_lt {xs : List Int} {k : Nat} (h : k + xs.length ≤ BB) : xs.length < big ∨ xs.length = BB := by unfold BB big at *; omega
noncomputable def mkI (xs : List Int) (k : Nat) : List Int := ((laws_markIntS xs (k : Int)).getD default).2
theorem wi {n k : Nat} (hn : n ≤ 1048576) (h : k < n) : w64 ((k : Int) + 1) = ((k + 1 : Nat) : Int) := w64k (by unfold big; omega)
theorem markI_eq (xs : List Int) (k : Nat) (hl : xs.length ≤ 1048576) (h : k + xs.length ≤ BB) : laws_markIntS xs (k : Int) = some (((k + xs.length : Nat) : Int), mkI xs k) ∧ laws_heldIntS (mkI xs k) (k : Int) = some ((k + xs.length : Nat) : Int) := by
  obtain ⟨ys, y1, y2, y3⟩ := mark_loop (U := Int × Int) xs (fun _ => 1) (fun _ k => (k : Int)) (fun s : (List Int) × Int × Int => laws_markIntS_L1 xs s.1 s.2.1 s.2.2) (fun ys k i => (ys, k, i)) (fun ys k i hi hy hx hk => by
    show laws_markIntS_L1 xs ys (k : Int) (i : Int) = _
    unfold laws_markIntS_L1
    rw [if_pos (lt_ hi), if_pos (inr_ hi), wi hl hi, wn hk, Int.toNat_natCast]) (fun ys k => by
    show laws_markIntS_L1 xs ys k (xs.length : Int) = _
    unfold laws_markIntS_L1; simp only [nlt_, Bool.false_eq_true, if_false]) k (by rw [cnt_one]; omega)
  rw [cnt_one, Nat.one_mul] at y1 y3
  have e : laws_markIntS xs (k : Int) = some (((k + xs.length : Nat) : Int), ys) := by
    unfold laws_markIntS; rw [y1, bind_some']; rfl
  have em : mkI xs k = ys := by unfold mkI; rw [e]; rfl
  rw [em]
  refine ⟨e, ?_⟩
  unfold laws_heldIntS
  rw [y3 (fun s : Int × Int => laws_heldIntS_L1 ys s.1 s.2) (fun k i => (k, i)) (fun k i hi hk hz => by
    show laws_heldIntS_L1 ys (k : Int) (i : Int) = _
    unfold laws_heldIntS_L1
    rw [if_pos (lt_ (by omega)), if_pos (inr_ (by omega)), hz, bne_self_i, wi hl hi, wn hk]; rfl) (fun k => by
    show laws_heldIntS_L1 ys k (xs.length : Int) = _
    rw [← y2]
    unfold laws_heldIntS_L1; simp only [nlt_, Bool.false_eq_true, if_false])]
  rfl
def nF (x : Fix) : Nat := 1 + x.Data.length
noncomputable def gF (x : Fix) (k : Nat) : Fix := ⟨(k : Int), mkI x.Data (k + 1)⟩
noncomputable def mkF (xs : List Fix) (k : Nat) : List Fix := ((laws_markFixS xs (k : Int)).getD default).2
theorem markF_eq (xs : List Fix) (k : Nat) (hl : xs.length ≤ 1048576) (hd : ∀ x ∈ xs, x.Data.length ≤ 1048576) (h : k + cnt nF xs ≤ BB) : laws_markFixS xs (k : Int) = some (((k + cnt nF xs : Nat) : Int), mkF xs k) ∧ laws_heldFixS (mkF xs k) (k : Int) = some ((k + cnt nF xs : Nat) : Int) := by
  obtain ⟨ys, y1, y2, y3⟩ := mark_loop (U := Int × Int) xs nF gF (fun s : (List Fix) × Int × Int => laws_markFixS_L1 xs s.1 s.2.1 s.2.2) (fun ys k i => (ys, k, i)) (fun ys k i hi hy hx hk => by
    show laws_markFixS_L1 xs ys (k : Int) (i : Int) = _
    have hdi := hd _ (ix_mem hi)
    have hiy : i < ys.length := by omega
    unfold nF at hk
    unfold laws_markFixS_L1 gF nF
    rw [if_pos (lt_ hi), if_pos (inr_ hi), wi hl hi, wn (by omega), Int.toNat_natCast]
    simp only [ix_set hiy, List.set_set, hx]
    rw [(markI_eq _ (k + 1) hdi (by omega)).1, bind_some', nm_bind, Nat.add_assoc]) (fun ys k => by
    show laws_markFixS_L1 xs ys k (xs.length : Int) = _
    unfold laws_markFixS_L1; simp only [nlt_, Bool.false_eq_true, if_false]) k h
  have e : laws_markFixS xs (k : Int) = some (((k + cnt nF xs : Nat) : Int), ys) := by
    unfold laws_markFixS; rw [y1, bind_some']; rfl
  have em : mkF xs k = ys := by unfold mkF; rw [e]; rfl
  rw [em]
  refine ⟨e, ?_⟩
  unfold laws_heldFixS
  rw [y3 (fun s : Int × Int => laws_heldFixS_L1 ys s.1 s.2) (fun k i => (k, i)) (fun k i hi hk hz => by
    show laws_heldFixS_L1 ys (k : Int) (i : Int) = _
    have hdi := hd _ (ix_mem hi)
    unfold nF at hk
    unfold laws_heldFixS_L1 nF
    rw [if_pos (lt_ (by omega)), if_pos (inr_ (by omega)), hz, wi hl hi, wn (by omega)]
    unfold gF
    simp only [bne_self_i, Bool.false_eq_true, if_false]
    rw [(markI_eq _ (k + 1) hdi (by omega)).2, bind_some', nonneg_, Nat.add_assoc]; rfl) (fun k => by
    show laws_heldFixS_L1 ys k (xs.length : Int) = _
    rw [← y2]
    unfold laws_heldFixS_L1; simp only [nlt_, Bool.false_eq_true, if_false])]
  rfl
def nA (x : Access) : Nat := 2 + x.Steps.length
noncomputable def gA (x : Access) (k : Nat) : Access := ⟨(k : Int), ((k + 1 : Nat) : Int), mkI x.Steps (k + 1 + 1)⟩
noncomputable def mkA (xs : List Access) (k : Nat) : List Access := ((laws_markAccessS xs (k : Int)).getD default).2
theorem markA_eq (xs : List Access) (k : Nat) (hl : xs.length ≤ 1048576) (hd : ∀ x ∈ xs, x.Steps.length ≤ 1048576) (h : k + cnt nA xs ≤ BB) : laws_markAccessS xs (k : Int) = some (((k + cnt nA xs : Nat) : Int), mkA xs k) ∧ laws_heldAccessS (mkA xs k) (k : Int) = some ((k + cnt nA xs : Nat) : Int) := by
  obtain ⟨ys, y1, y2, y3⟩ := mark_loop (U := Int × Int) xs nA gA (fun s : (List Access) × Int × Int => laws_markAccessS_L1 xs s.1 s.2.1 s.2.2) (fun ys k i => (ys, k, i)) (fun ys k i hi hy hx hk => by
    show laws_markAccessS_L1 xs ys (k : Int) (i : Int) = _
    have hdi := hd _ (ix_mem hi)
    have hiy : i < ys.length := by omega
    unfold nA at hk
    unfold laws_markAccessS_L1 gA nA
    rw [if_pos (lt_ hi), if_pos (inr_ hi), wi hl hi, wn (by omega), wn (by omega), Int.toNat_natCast]
    simp only [nm_bind, ix_set hiy, List.set_set, hx]
    rw [(markI_eq _ (k + 1 + 1) hdi (by omega)).1, bind_some', show k + 1 + 1 + (ix xs (i : Int)).Steps.length = k + (2 + (ix xs (i : Int)).Steps.length) by omega]) (fun ys k => by
    show laws_markAccessS_L1 xs ys k (xs.length : Int) = _
    unfold laws_markAccessS_L1; simp only [nlt_, Bool.false_eq_true, if_false]) k h
  have e : laws_markAccessS xs (k : Int) = some (((k + cnt nA xs : Nat) : Int), ys) := by
    unfold laws_markAccessS; rw [y1, bind_some']; rfl
  have em : mkA xs k = ys := by unfold mkA; rw [e]; rfl
  rw [em]
  refine ⟨e, ?_⟩
  unfold laws_heldAccessS
  rw [y3 (fun s : Int × Int => laws_heldAccessS_L1 ys s.1 s.2) (fun k i => (k, i)) (fun k i hi hk hz => by
    show laws_heldAccessS_L1 ys (k : Int) (i : Int) = _
    have hdi := hd _ (ix_mem hi)
    unfold nA at hk
    unfold laws_heldAccessS_L1 nA
    rw [if_pos (lt_ (by omega)), if_pos (inr_ (by omega)), hz, wi hl hi, wn (by omega), wn (by omega)]
    unfold gA
    simp only [bne_self_i, Bool.false_eq_true, if_false]
    rw [(markI_eq _ (k + 1 + 1) hdi (by omega)).2, bind_some', nonneg_, show k + 1 + 1 + (ix xs (i : Int)).Steps.length = k + (2 + (ix xs (i : Int)).Steps.length) by omega]; rfl) (fun k => by
    show laws_heldAccessS_L1 ys k (xs.length : Int) = _
    rw [← y2]
    unfold laws_heldAccessS_L1; simp only [nlt_, Bool.false_eq_true, if_false])]
  rfl
def gC (x : Calc) (k : Nat) : Calc := ⟨(k : Int), ((k + 1 : Nat) : Int), ((k + 1 + 1 : Nat) : Int)⟩
noncomputable def mkC (xs : List Calc) (k : Nat) : List Calc := ((laws_markCalcS xs (k : Int)).getD default).2
theorem markC_eq (xs : List Calc) (k : Nat) (hl : xs.length ≤ 1048576) (h : k + 3 * xs.length ≤ BB) : laws_markCalcS xs (k : Int) = some (((k + 3 * xs.length : Nat) : Int), mkC xs k) ∧ laws_heldCalcS (mkC xs k) (k : Int) = some ((k + 3 * xs.length : Nat) : Int) := by
  obtain ⟨ys, y1, y2, y3⟩ := mark_loop (U := Int × Int) xs (fun _ => 3) gC (fun s : (List Calc) × Int × Int => laws_markCalcS_L1 xs s.1 s.2.1 s.2.2) (fun ys k i => (ys, k, i)) (fun ys k i hi hy hx hk => by
    show laws_markCalcS_L1 xs ys (k : Int) (i : Int) = _
    have hiy : i < ys.length := by omega
    unfold laws_markCalcS_L1 gC
    rw [if_pos (lt_ hi), if_pos (inr_ hi), wi hl hi, wn (by omega), wn (by omega), wn (by omega), Int.toNat_natCast]
    simp only [nm_bind, ix_set hiy, List.set_set, hx]) (fun ys k => by
    show laws_markCalcS_L1 xs ys k (xs.length : Int) = _
    unfold laws_markCalcS_L1; simp only [nlt_, Bool.false_eq_true, if_false]) k (by rw [cnt_one]; omega)
  rw [cnt_one] at y1 y3
  have e : laws_markCalcS xs (k : Int) = some (((k + 3 * xs.length : Nat) : Int), ys) := by
    unfold laws_markCalcS; rw [y1, bind_some']; rfl
  have em : mkC xs k = ys := by unfold mkC; rw [e]; rfl
  rw [em]
  refine ⟨e, ?_⟩
  unfold laws_heldCalcS
  rw [y3 (fun s : Int × Int => laws_heldCalcS_L1 ys s.1 s.2) (fun k i => (k, i)) (fun k i hi hk hz => by
    show laws_heldCalcS_L1 ys (k : Int) (i : Int) = _
    unfold laws_heldCalcS_L1
    rw [if_pos (lt_ (by omega)), if_pos (inr_ (by omega)), hz, wi hl hi, wn (by omega), wn (by omega), wn (by omega)]
    unfold gC
    simp only [bne_self_i, Bool.false_eq_true, if_false]) (fun k => by
    show laws_heldCalcS_L1 ys k (xs.length : Int) = _
    rw [← y2]
    unfold laws_heldCalcS_L1; simp only [nlt_, Bool.false_eq_true, if_false])]
  rfl
def nK (x : Kernel) : Nat := x.Loops.length + cnt nA x.Loads + (2 + x.Store.Steps.length) + 1 + 3 * x.Code.length
noncomputable def gK (x : Kernel) (k : Nat) : Kernel :=
  ⟨mkI x.Loops k, mkA x.Loads (k + x.Loops.length), ⟨((k + x.Loops.length + cnt nA x.Loads : Nat) : Int), ((k + x.Loops.length + cnt nA x.Loads + 1 : Nat) : Int), mkI x.Store.Steps (k + x.Loops.length + cnt nA x.Loads + 1 + 1)⟩,
    (((k + x.Loops.length + cnt nA x.Loads + 1 + 1 + x.Store.Steps.length : Nat) : Int).tmod 3 == 0), mkC x.Code (k + x.Loops.length + cnt nA x.Loads + 1 + 1 + x.Store.Steps.length + 1)⟩
noncomputable def mkK (xs : List Kernel) (k : Nat) : List Kernel := ((laws_markKernelS xs (k : Int)).getD default).2
theorem markK_eq (xs : List Kernel) (k : Nat) (hl : xs.length ≤ 1048576) (hd : ∀ x ∈ xs, SmK x) (h : k + cnt nK xs ≤ BB) : laws_markKernelS xs (k : Int) = some (((k + cnt nK xs : Nat) : Int), mkK xs k) ∧ laws_heldKernelS (mkK xs k) (k : Int) = some ((k + cnt nK xs : Nat) : Int) := by
  obtain ⟨ys, y1, y2, y3⟩ := mark_loop (U := Int × Int) xs nK gK (fun s : (List Kernel) × Int × Int => laws_markKernelS_L1 xs s.1 s.2.1 s.2.2) (fun ys k i => (ys, k, i)) (fun ys k i hi hy hx hk => by
    show laws_markKernelS_L1 xs ys (k : Int) (i : Int) = _
    have hdi := hd _ (ix_mem hi)
    have hiy : i < ys.length := by omega
    unfold nK at hk
    unfold laws_markKernelS_L1 gK nK
    generalize ix xs (i : Int) = x at *
    rw [if_pos (lt_ hi), if_pos (inr_ hi), wi hl hi, hx, (markI_eq _ k hdi.loops (by omega)).1, bind_some', nm_bind]
    simp only [Int.toNat_natCast, ix_set hiy]
    rw [(markA_eq _ _ hdi.loads hdi.steps (by omega)).1, bind_some']
    simp only [nm_bind, Int.toNat_natCast, ix_set hiy, List.set_set]
    rw [wn (by omega), wn (by omega), (markI_eq _ _ hdi.store (by omega)).1, bind_some']
    simp only [nm_bind, Int.toNat_natCast, ix_set hiy, List.set_set]
    rw [wn (by omega), (markC_eq _ _ hdi.code (by omega)).1, bind_some']
    simp only [nm_bind, Int.toNat_natCast, ix_set hiy, List.set_set]
    rw [show k + x.Loops.length + cnt nA x.Loads + 1 + 1 + x.Store.Steps.length + 1 + 3 * x.Code.length = k + (x.Loops.length + cnt nA x.Loads + (2 + x.Store.Steps.length) + 1 + 3 * x.Code.length) by omega]) (fun ys k => by
    show laws_markKernelS_L1 xs ys k (xs.length : Int) = _
    unfold laws_markKernelS_L1; simp only [nlt_, Bool.false_eq_true, if_false]) k h
  have e : laws_markKernelS xs (k : Int) = some (((k + cnt nK xs : Nat) : Int), ys) := by
    unfold laws_markKernelS; rw [y1, bind_some']; rfl
  have em : mkK xs k = ys := by unfold mkK; rw [e]; rfl
  rw [em]
  refine ⟨e, ?_⟩
  unfold laws_heldKernelS
  rw [y3 (fun s : Int × Int => laws_heldKernelS_L1 ys s.1 s.2) (fun k i => (k, i)) (fun k i hi hk hz => by
    show laws_heldKernelS_L1 ys (k : Int) (i : Int) = _
    have hdi := hd _ (ix_mem hi)
    unfold nK at hk
    unfold laws_heldKernelS_L1 nK
    rw [if_pos (lt_ (by omega)), if_pos (inr_ (by omega)), hz, wi hl hi]
    generalize ix xs (i : Int) = x at *
    unfold gK
    simp only []
    rw [(markI_eq _ k hdi.loops (by omega)).2, bind_some', nonneg_]
    simp only [Bool.false_eq_true, if_false]
    rw [(markA_eq _ _ hdi.loads hdi.steps (by omega)).2, bind_some', nonneg_, wn (by omega), wn (by omega)]
    simp only [Bool.false_eq_true, if_false, bne_self_i]
    rw [(markI_eq _ _ hdi.store (by omega)).2, bind_some', nonneg_, wn (by omega)]
    simp only [Bool.false_eq_true, if_false, beq_self_eq_true, Bool.not_true]
    rw [(markC_eq _ _ hdi.code (by omega)).2, bind_some', nonneg_, show k + x.Loops.length + cnt nA x.Loads + 1 + 1 + x.Store.Steps.length + 1 + 3 * x.Code.length = k + (x.Loops.length + cnt nA x.Loads + (2 + x.Store.Steps.length) + 1 + 3 * x.Code.length) by omega]
    rfl) (fun k => by
    show laws_heldKernelS_L1 ys k (xs.length : Int) = _
    rw [← y2]
    unfold laws_heldKernelS_L1; simp only [nlt_, Bool.false_eq_true, if_false])]
  rfl
theorem cnt_le {α : Type} (n : α → Nat) (M : Nat) (xs : List α) (h : ∀ x ∈ xs, n x ≤ M) : cnt n xs ≤ xs.length * M := by
  induction xs with
  | nil => simp [cnt]
  | cons x t ih =>
    rw [cnt_cons, List.length_cons, Nat.succ_mul]
    have := h x (by simp)
    have := ih (fun y hy => h y (by simp [hy]))
    omega
theorem cnt_bd {α : Type} (n : α → Nat) (M : Nat) (xs : List α) (h : ∀ x ∈ xs, n x ≤ M) (hl : xs.length ≤ 1048576) : cnt n xs ≤ 1048576 * M := Nat.le_trans (cnt_le n M xs h) (Nat.mul_le_mul_right _ hl)
theorem sm_bounds (l : Nest) (h : Sm l) : 1 + l.Sizes.length + l.Ins.length + cnt nF l.Fixed + cnt nK l.Kernels + l.Outs.length ≤ BB := by
  have h1 := h.sizes
  have h2 := h.ins
  have h3 := h.outs
  have h4 := cnt_bd nF 1048577 l.Fixed (fun x hx => by have := h.data x hx; unfold nF; omega) h.fixed
  have h5 := cnt_bd nK 1099518967811 l.Kernels (fun x hx => by
    have k := h.ker hx
    have a := cnt_bd nA 1048578 x.Loads (fun a ha => by have := k.steps a ha; unfold nA; omega) k.loads
    have := k.loops
    have := k.store
    have := k.code
    unfold nK
    omega) h.kers
  unfold BB
  omega
/-- A nest's marks stand, and are as many as told. -/
theorem markN_eq (l : Nest) (h : Sm l) : ∃ (m : Nat) (r : (List Int) × (List Int) × (List Fix) × (List Kernel) × (List Int)), laws_markNest l 1 = some ((m : Int), r) ∧ laws_heldNest ⟨r.1, r.2.1, r.2.2.1, r.2.2.2.1, r.2.2.2.2⟩ 1 = some (m : Int) := by
  have hb := sm_bounds l h
  have a1 := markI_eq l.Sizes 1 h.sizes (by omega)
  have a2 := markI_eq l.Ins (1 + l.Sizes.length) h.ins (by omega)
  have a3 := markF_eq l.Fixed (1 + l.Sizes.length + l.Ins.length) h.fixed h.data (by omega)
  have a4 := markK_eq l.Kernels (1 + l.Sizes.length + l.Ins.length + cnt nF l.Fixed) h.kers (fun k hk => h.ker hk) (by omega)
  have a5 := markI_eq l.Outs (1 + l.Sizes.length + l.Ins.length + cnt nF l.Fixed + cnt nK l.Kernels) h.outs (by omega)
  have e1 : ((1 : Nat) : Int) = 1 := rfl
  rw [e1] at a1
  refine ⟨1 + l.Sizes.length + l.Ins.length + cnt nF l.Fixed + cnt nK l.Kernels + l.Outs.length, (mkI l.Sizes 1, mkI l.Ins (1 + l.Sizes.length), mkF l.Fixed (1 + l.Sizes.length + l.Ins.length), mkK l.Kernels (1 + l.Sizes.length + l.Ins.length + cnt nF l.Fixed), mkI l.Outs (1 + l.Sizes.length + l.Ins.length + cnt nF l.Fixed + cnt nK l.Kernels)), ?_, ?_⟩
  · unfold laws_markNest
    rw [a1.1, bind_some', a2.1, bind_some', a3.1, bind_some', a4.1, bind_some', a5.1, bind_some']
  · unfold laws_heldNest
    simp only []
    rw [a1.2, bind_some', nonneg_, a2.2, bind_some', nonneg_, a3.2, bind_some', nonneg_, a4.2, bind_some', nonneg_, a5.2, bind_some', nonneg_]
    rfl
end Go.Proofs.Ytbdchgofcejiiaa
