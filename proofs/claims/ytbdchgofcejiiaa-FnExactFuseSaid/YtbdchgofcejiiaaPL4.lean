import Derived.Test.YtbdchgofcejiiaaPL3
set_option linter.unusedVariables false
set_option linter.unusedSimpArgs false
namespace Go.Proofs.Ytbdchgofcejiiaa
open Go Go.Pg
theorem code_same (code : List Calc) (loads : Int) : impl_codeOk code loads = spec_l11Code code loads := rfl
def okC (loads : Int) (k : Nat) (x : Calc) : Bool :=
  if x.Op == 1 then (decide (x.A ≥ 0) && decide (x.A < loads) && x.B == 0)
  else if x.Op == 2 then (decide (x.A ≥ 0) && decide (x.A < 2147483647) && x.B == 0)
  else if x.Op == 3 || x.Op == 4 || x.Op == 5 then (decide (x.A ≥ 0) && decide (x.A < (k : Int)) && decide (x.B ≥ 0) && decide (x.B < (k : Int)))
  else if x.Op == 6 || x.Op == 7 || x.Op == 8 || x.Op == 9 then (decide (x.A ≥ 0) && decide (x.A < (k : Int)) && x.B == 0) else false
def codeB (code : List Calc) (loads : Int) : Bool := decide (1 ≤ code.length) && decide (code.length ≤ 60) && (List.range code.length).all fun k => okC loads k (ix code (k : Int))
theorem code_eq (code : List Calc) (loads : Int) : spec_l11Code code loads = some (codeB code loads) := by
  unfold spec_l11Code codeB
  by_cases h1 : code.length < 1
  · rw [if_pos (by simp; omega)]; simp [Nat.not_le.2 h1]
  by_cases h2 : code.length > 60
  · rw [if_pos (by simp; omega)]; simp [Nat.not_le.2 h2]
  rw [if_neg (by simp; omega)]
  rw [loop_allI code.length (fun s : Int => spec_l11Code_L1 code loads s) (fun i => i) (fun k => okC loads k (ix code (k : Int))) (.inl false) (.inr ()) (fun k hk => by
    unfold spec_l11Code_L1 spec_l11Code_J4 spec_l11Code_J5 spec_l11Code_J6 okC
    rw [if_pos (lt_ hk), if_pos (inr_ hk), w64k (by unfold big; omega)]
    generalize ix code (k : Int) = x
    by_cases o1 : x.Op = 1
    · simp only [o1, beq_self_eq_true, if_true]
      cases (decide (x.A ≥ 0) && decide (x.A < loads) && x.B == 0) <;> rfl
    by_cases o2 : x.Op = 2
    · simp only [o2, beq_self_eq_true, if_true]
      cases (decide (x.A ≥ 0) && decide (x.A < 2147483647) && x.B == 0) <;> rfl
    by_cases o3 : x.Op = 3
    · simp only [o3, beq_self_eq_true, if_true, Bool.true_or]
      cases (decide (x.A ≥ 0) && decide (x.A < (k : Int)) && decide (x.B ≥ 0) && decide (x.B < (k : Int))) <;> rfl
    by_cases o4 : x.Op = 4
    · simp only [o4, beq_self_eq_true, if_true, Bool.or_true, Bool.true_or]
      cases (decide (x.A ≥ 0) && decide (x.A < (k : Int)) && decide (x.B ≥ 0) && decide (x.B < (k : Int))) <;> rfl
    by_cases o5 : x.Op = 5
    · simp only [o5, beq_self_eq_true, if_true, Bool.or_true]
      cases (decide (x.A ≥ 0) && decide (x.A < (k : Int)) && decide (x.B ≥ 0) && decide (x.B < (k : Int))) <;> rfl
    have e1 : (x.Op == 1) = false := by simpa using o1
    have e2 : (x.Op == 2) = false := by simpa using o2
    have e3 : (x.Op == 3) = false := by simpa using o3
    have e4 : (x.Op == 4) = false := by simpa using o4
    have e5 : (x.Op == 5) = false := by simpa using o5
    simp only [e1, e2, e3, e4, e5, Bool.false_eq_true, if_false, Bool.or_self]
    cases e6 : x.Op == 6
    · cases e7 : x.Op == 7
      · cases e8 : x.Op == 8
        · cases e9 : x.Op == 9
          · rfl
          · simp only [Bool.or_true, if_true, Bool.false_eq_true, if_false]
            cases (decide (x.A ≥ 0) && decide (x.A < (k : Int)) && x.B == 0) <;> rfl
        · simp only [Bool.or_true, Bool.true_or, if_true, Bool.false_eq_true, if_false]
          cases (decide (x.A ≥ 0) && decide (x.A < (k : Int)) && x.B == 0) <;> rfl
      · simp only [Bool.or_true, Bool.true_or, if_true, Bool.false_eq_true, if_false]
        cases (decide (x.A ≥ 0) && decide (x.A < (k : Int)) && x.B == 0) <;> rfl
    · simp only [Bool.or_true, Bool.true_or, if_true, Bool.false_eq_true, if_false]
      cases (decide (x.A ≥ 0) && decide (x.A < (k : Int)) && x.B == 0) <;> rfl) (by unfold spec_l11Code_L1; simp only [nlt_, Bool.false_eq_true, if_false])]
  rw [bind_some']
  have q1 : decide (1 ≤ code.length) = true := by simpa using by omega
  have q2 : decide (code.length ≤ 60) = true := by simpa using by omega
  rw [q1, q2]
  cases hh : (List.range code.length).all fun k => okC loads k (ix code (k : Int)) <;> rfl
theorem mul_bd2 {t y : Int} (h1 : -4096 ≤ t) (h2 : t ≤ 4096) (h3 : 0 ≤ y) (h4 : y ≤ 65535) : -268435456 ≤ t * y ∧ t * y ≤ 268435456 ∧ (t < 0 → t * y ≤ 0) ∧ (0 ≤ t → 0 ≤ t * y) := by
  rcases Int.lt_or_le t 0 with h | h
  · have e1 : 0 ≤ (-t) * y := Int.mul_nonneg (by omega) h3
    have e2 : (-t) * y ≤ 4096 * 65535 := Int.mul_le_mul (by omega) h4 h3 (by omega)
    have e3 : (-t) * y = -(t * y) := Int.neg_mul t y
    omega
  · have e1 : 0 ≤ t * y := Int.mul_nonneg h h3
    have e2 : t * y ≤ 4096 * 65535 := Int.mul_le_mul h2 h4 h3 (by omega)
    omega
def stp (a : Access) (s : Int × Int) (k : Nat) (x : Int) : (Int × Int) ⊕ (Bool ⊕ (Int × Int)) :=
  if x = 1 ∧ ix a.Steps (k : Int) = 0 then .inl s else if x = 1 ∨ ix a.Steps (k : Int) < -4096 ∨ ix a.Steps (k : Int) > 4096 then .inr (.inl false)
  else if ix a.Steps (k : Int) < 0 then .inl (s.1 + ix a.Steps (k : Int) * (x - 1), s.2) else .inl (s.1, s.2 + ix a.Steps (k : Int) * (x - 1))
def accG (a : Access) (loops : List Int) : Bool ⊕ (Int × Int) := goI (stp a) (fun s => .inr s) loops 0 (a.Offset, a.Offset)
def fitB (a : Access) (loops : List Int) (size : Int) : Bool :=
  decide (a.Steps.length = loops.length) && decide (0 ≤ a.Offset) && decide (a.Offset < size) && (match accG a loops with | .inl _ => false | .inr s => decide (s.1 ≥ 0) && decide (s.2 < size))
def LoopsOk (loops : List Int) : Prop := loops.length ≤ 12 ∧ ∀ x ∈ loops, 1 ≤ x ∧ x ≤ 65536
def accI (k : Nat) (s : Int × Int) : Prop := -(k * 268435456) ≤ s.1 ∧ s.1 ≤ 4096 ∧ 0 ≤ s.2 ∧ s.2 ≤ 4096 + k * 268435456
theorem stp_inv {a : Access} {s s' : Int × Int} {k : Nat} {x : Int} (hI : accI k s) (hx : 1 ≤ x ∧ x ≤ 65536) (h : stp a s k x = .inl s') : accI (k + 1) s' := by
  obtain ⟨i1, i2, i3, i4⟩ := hI
  obtain ⟨s1, s2⟩ := s
  unfold stp at h
  generalize ix a.Steps (k : Int) = t at h
  by_cases c1 : x = 1 ∧ t = 0
  · rw [if_pos c1] at h
    injection h with h; subst h
    exact ⟨by omega, i2, i3, by omega⟩
  rw [if_neg c1] at h
  by_cases c2 : x = 1 ∨ t < -4096 ∨ t > 4096
  · rw [if_pos c2] at h; cases h
  rw [if_neg c2] at h
  have hm := mul_bd2 (t := t) (y := x - 1) (by omega) (by omega) (by omega) (by omega)
  generalize t * (x - 1) = v at h hm
  simp only at i1 i2 i3 i4
  by_cases c3 : t < 0
  · rw [if_pos c3] at h
    injection h with h; subst h
    have := hm.2.2.1 c3
    exact ⟨by simp only; omega, by simp only; omega, i3, by simp only; omega⟩
  · rw [if_neg c3] at h
    injection h with h; subst h
    have := hm.2.2.2 (by omega)
    exact ⟨by simp only; omega, i2, by simp only; omega, by simp only; omega⟩
theorem spec_acc_eq (a : Access) (loops sizes : List Int) (hl : LoopsOk loops) (hs : ∀ x ∈ sizes, x ≤ 4096) : spec_l11Access a loops sizes = some (decide (0 ≤ a.Buffer) && decide (a.Buffer < (sizes.length : Int)) && fitB a loops (ix sizes a.Buffer)) := by
  unfold spec_l11Access fitB
  by_cases b1 : a.Buffer < 0
  · rw [if_pos (by simp [b1]), if_pos (by simp [b1])]; simp [Int.not_le.2 b1]
  by_cases b2 : a.Buffer ≥ (sizes.length : Int)
  · rw [if_pos (by simp [b2]), if_pos (by simp [b2])]; simp [Int.not_lt.2 b2]
  have hr : 0 ≤ a.Buffer ∧ a.Buffer < (sizes.length : Int) := ⟨by omega, by omega⟩
  rw [if_pos (fun _ => hr)]
  have hsz : ix sizes a.Buffer ≤ 4096 := by
    obtain ⟨j, hj⟩ := Int.eq_ofNat_of_zero_le hr.1
    rw [hj]; exact hs _ (ix_mem (by omega))
  generalize hz : ix sizes a.Buffer = z at *
  rcases (Classical.em (a.Steps.length = loops.length)).symm with b3 | b3
  · rw [if_pos (by simp; omega)]; simp [b3]
  by_cases b4 : a.Offset < 0
  · rw [if_pos (by simp [b4])]; simp [Int.not_le.2 b4]
  by_cases b5 : a.Offset ≥ z
  · rw [if_pos (by simp [b5])]; simp [Int.not_lt.2 b5]
  rw [if_neg (by simp; omega)]
  rw [loop_goI (S := Int × Int) loops accI (fun s : Int × Int × Int => spec_l11Access_L1 a loops s.1 s.2.1 s.2.2) (fun s i => (s.1, s.2, i)) (stp a) (fun s => .inr s) ?_ (fun s k s' hI hk h => stp_inv hI (hl.2 _ (ix_mem hk)) h) ?_ (a.Offset, a.Offset) (by unfold accI; simp only; omega)]
  · rw [bind_some']
    have q1 : decide (0 ≤ a.Buffer) = true := by simpa using hr.1
    have q2 : decide (a.Buffer < (sizes.length : Int)) = true := by simpa using hr.2
    have q3 : decide (0 ≤ a.Offset) = true := by simpa using by omega
    have q4 : decide (a.Offset < z) = true := by simpa using by omega
    have q5 : decide (a.Steps.length = loops.length) = true := by simpa using b3
    rw [q1, q2, q3, q4, q5]
    have hb : ∀ q : Bool ⊕ (Int × Int), q = accG a loops → (∀ b, q = .inl b → b = false) → (match q with | .inl e => some e | .inr e => spec_l11Access_J3 a sizes e.1 e.2) = some (true && true && (true && true && true && match q with | .inl _ => false | .inr s => decide (s.1 ≥ 0) && decide (s.2 < z))) := by
      rintro (b | s) _ hq
      · rw [hq b rfl]; rfl
      · simp only [spec_l11Access_J3, hz]
        rw [if_pos (fun _ => hr)]; rfl
    have hG : accG a loops = goI (stp a) (fun s => .inr s) loops 0 (a.Offset, a.Offset) := rfl
    rw [hG]
    refine hb _ rfl ?_
    refine goI_ind (fun (q : Bool ⊕ (Int × Int)) => ∀ b, q = .inl b → b = false) (fun _ _ => True) loops 0 _ trivial (fun s j x _ _ => ⟨fun _ _ => trivial, fun r hr b e => ?_⟩) (fun s _ b e => by cases e)
    subst e
    unfold stp at hr
    split at hr
    · cases hr
    · split at hr
      · injection hr with hr; injection hr with hr; exact hr.symm
      · split at hr <;> cases hr
  · intro s k hI hk
    show spec_l11Access_L1 a loops s.1 s.2 (k : Int) = _
    have hx := hl.2 _ (ix_mem hk)
    have hlen := hl.1
    unfold spec_l11Access_L1 spec_l11Access_J2 stp
    rw [if_pos (lt_ hk), if_pos (inr_ (b3 ▸ hk)), if_pos (inr_ hk), w64k (by unfold big; omega)]
    unfold accI at hI
    generalize ix a.Steps (k : Int) = t at *
    generalize ix loops (k : Int) = x at *
    by_cases c1 : x = 1
    · by_cases c2 : t = 0
      · simp [c1, c2]
      · simp [c1, c2]
    by_cases c3 : t < -4096
    · simp [c1, c3]
    by_cases c4 : t > 4096
    · simp [c1, c4]
    have hm := mul_bd2 (t := t) (y := x - 1) (by omega) (by omega) (by omega) (by omega)
    rw [w64_id (n := x - 1) (by omega) (by omega), w64_id (n := t * (x - 1)) (by omega) (by omega)]
    have hk12 : (k : Int) < 12 := by omega
    by_cases c5 : t < 0
    · rw [w64_id (n := s.1 + t * (x - 1)) (by omega) (by omega)]
      simp [c1, c3, c4, c5]
    · rw [w64_id (n := s.2 + t * (x - 1)) (by omega) (by omega)]
      simp [c1, c3, c4, c5]
  · intro s _
    show spec_l11Access_L1 a loops s.1 s.2 (loops.length : Int) = _
    unfold spec_l11Access_L1; simp only [nlt_, Bool.false_eq_true, if_false]
theorem impl_fits_eq (a : Access) (loops : List Int) (size : Int) (hl : LoopsOk loops) (hs : size ≤ 4096) : impl_Access_fitsIn a loops size = some (fitB a loops size) := by
  unfold impl_Access_fitsIn fitB
  rcases (Classical.em (a.Steps.length = loops.length)).symm with b3 | b3
  · rw [if_pos (by simp; omega)]; simp [b3]
  by_cases b4 : a.Offset < 0
  · rw [if_pos (by simp [b4])]; simp [Int.not_le.2 b4]
  by_cases b5 : a.Offset ≥ size
  · rw [if_pos (by simp [b5])]; simp [Int.not_lt.2 b5]
  rw [if_neg (by simp; omega)]
  rw [loop_goI (S := Int × Int) loops accI (fun s : Int × Int × Int => impl_Access_fitsIn_L1 a loops s.1 s.2.1 s.2.2) (fun s i => (s.1, s.2, i)) (stp a) (fun s => .inr s) ?_ (fun s k s' hI hk h => stp_inv hI (hl.2 _ (ix_mem hk)) h) ?_ (a.Offset, a.Offset) (by unfold accI; simp only; omega)]
  · rw [bind_some']
    have q3 : decide (0 ≤ a.Offset) = true := by simpa using by omega
    have q4 : decide (a.Offset < size) = true := by simpa using by omega
    have q5 : decide (a.Steps.length = loops.length) = true := by simpa using b3
    rw [q3, q4, q5]
    have hb : ∀ q : Bool ⊕ (Int × Int), q = accG a loops → (∀ b, q = .inl b → b = false) → (match q with | .inl e => some e | .inr e => impl_Access_fitsIn_J1 size e.1 e.2) = some (true && true && true && match q with | .inl _ => false | .inr s => decide (s.1 ≥ 0) && decide (s.2 < size)) := by
      rintro (b | s) _ hq
      · rw [hq b rfl]; rfl
      · rfl
    have hG : accG a loops = goI (stp a) (fun s => .inr s) loops 0 (a.Offset, a.Offset) := rfl
    rw [hG]
    refine hb _ rfl ?_
    refine goI_ind (fun (q : Bool ⊕ (Int × Int)) => ∀ b, q = .inl b → b = false) (fun _ _ => True) loops 0 _ trivial (fun s j x _ _ => ⟨fun _ _ => trivial, fun r hr b e => ?_⟩) (fun s _ b e => by cases e)
    subst e
    unfold stp at hr
    split at hr
    · cases hr
    · split at hr
      · injection hr with hr; injection hr with hr; exact hr.symm
      · split at hr <;> cases hr
  · intro s k hI hk
    show impl_Access_fitsIn_L1 a loops s.1 s.2 (k : Int) = _
    have hx := hl.2 _ (ix_mem hk)
    have hlen := hl.1
    unfold impl_Access_fitsIn_L1 stp
    rw [b3, if_pos (lt_ hk), if_pos (inr_ hk), if_pos (fun _ => inr_ hk), w64k (by unfold big; omega)]
    unfold accI at hI
    generalize ix a.Steps (k : Int) = t at *
    generalize ix loops (k : Int) = x at *
    by_cases c3 : t < -4096
    · have : t ≠ 0 := by omega
      simp [c3, this]
    by_cases c4 : t > 4096
    · have : t ≠ 0 := by omega
      simp [c4, this]
    have hm := mul_bd2 (t := t) (y := x - 1) (by omega) (by omega) (by omega) (by omega)
    rw [w64_id (n := x - 1) (by omega) (by omega), w64_id (n := t * (x - 1)) (by omega) (by omega)]
    have hk12 : (k : Int) < 12 := by omega
    by_cases c1 : x = 1
    · by_cases c2 : t = 0
      · subst c1; subst c2
        rw [if_neg (by simp), if_pos (inr_ hk)]
        simp
        rw [w64_id (n := s.1) (by omega) (by omega), w64_id (n := s.2) (by omega) (by omega)]
        exact ⟨rfl, rfl⟩
      · simp [c1, c2]
    rw [if_neg (by simp [c1, c3, c4]), if_pos (inr_ hk)]
    generalize t * (x - 1) = v at *
    have g1 : w64 (s.1 + (if v < 0 then v else 0)) = s.1 + (if v < 0 then v else 0) := w64_id (by split <;> omega) (by split <;> omega)
    have g2 : w64 (s.2 + (if v > 0 then v else 0)) = s.2 + (if v > 0 then v else 0) := w64_id (by split <;> omega) (by split <;> omega)
    rw [g1, g2]
    by_cases c5 : t < 0
    · have h1 := hm.2.2.1 c5
      have e1 : (if v < 0 then v else 0) = v := by split <;> omega
      have e2 : (if v > 0 then v else 0) = 0 := by split <;> omega
      rw [e1, e2, Int.add_zero]
      simp [c1, c3, c4, c5]
    · have h1 := hm.2.2.2 (by omega)
      have e1 : (if v < 0 then v else 0) = 0 := by split <;> omega
      have e2 : (if v > 0 then v else 0) = v := by split <;> omega
      rw [e1, e2, Int.add_zero]
      simp [c1, c3, c4, c5]
  · intro s _
    show impl_Access_fitsIn_L1 a loops s.1 s.2 (loops.length : Int) = _
    unfold impl_Access_fitsIn_L1; rw [b3]; simp only [nlt_, Bool.false_eq_true, if_false]
end Go.Proofs.Ytbdchgofcejiiaa
