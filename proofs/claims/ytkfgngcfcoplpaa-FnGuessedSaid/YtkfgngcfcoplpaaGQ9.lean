import Derived.Test.YtkfgngcfcoplpaaGQ1
set_option linter.unusedVariables false
set_option linter.unusedSimpArgs false
namespace Go.Proofs.Ytkfgngcfcoplpaa
open Go Go.Pg
structure ChP (c : Choice) : Prop where
  p : 1 ≤ c.Power ∧ c.Power ≤ 2
  k : 0 ≤ c.Cut ∧ c.Cut ≤ 64
  m : 1 ≤ c.Mass ∧ c.Mass ≤ 65536
open Classical in
theorem ch_s (c : Choice) : Z0o c = some (decide (ChP c)) := by
  have h : Z0o c = some ((decide (c.Power ≥ 1) && decide (c.Power ≤ 2)) && (decide (c.Cut ≥ 0) && decide (c.Cut ≤ 64)) && (decide (c.Mass ≥ 1) && decide (c.Mass ≤ 65536))) := by
    unfold Z0o Zf
    cases (decide (c.Power ≥ 1) && decide (c.Power ≤ 2)) <;> cases (decide (c.Cut ≥ 0) && decide (c.Cut ≤ 64)) <;> rfl
  rw [h]
  congr 1
  rw [Bool.eq_iff_iff]
  simp only [Bool.and_eq_true, decide_eq_true_eq, ge_iff_le]
  exact ⟨fun ⟨⟨h1, h2⟩, h3⟩ => ⟨h1, h2, h3⟩, fun ⟨h1, h2, h3⟩ => ⟨⟨h1, h2⟩, h3⟩⟩
theorem ch_i (c : Choice) : Z15 c = Z0o c := rfl
def powW (c : Choice) (w : List Int) : List Int := if c.Power = 2 then w.map (fun x => x * x) else w
theorem pow_s (c : Choice) (w : List Int) (hw : all3 0 1000 w = true) (hl : w.length ≤ 64) : loopM (fun s : (List Int) × Int => Z4_L1 c w s.1 s.2) (([] : List Int), (0 : Int)) = some (powW c w) := by
  have hW : (powW c w).length = w.length := by unfold powW; split <;> simp
  have key : ∀ (m k : Nat), k + m = w.length → loopM (fun s : (List Int) × Int => Z4_L1 c w s.1 s.2) ((powW c w).take k, (k : Int)) = some (powW c w) := by
    intro m
    induction m with
    | zero =>
      intro k hk
      obtain rfl : k = w.length := by omega
      refine loopM_end ?_
      show Z4_L1 c w _ _ = _
      unfold Z4_L1
      rw [nlt_, List.take_of_length_le (by omega)]; rfl
    | succ m ih =>
      intro k hk
      have hlt : k < w.length := by omega
      have hx := all3_mem hw (ix_mem hlt)
      have hnn : 0 ≤ ix w (k : Int) * ix w (k : Int) := Int.mul_nonneg hx.1 hx.1
      have hmm : ix w (k : Int) * ix w (k : Int) ≤ 1000 * 1000 := Int.mul_le_mul hx.2 hx.2 hx.1 (by decide)
      have hf : Z4_L1 c w ((powW c w).take k) (k : Int) = some (.inl ((powW c w).take (k + 1), ((k + 1 : Nat) : Int))) := by
        unfold Z4_L1
        rw [if_pos (lt_ hlt), if_pos (inr_ hlt)]
        have hJ : ∀ y, y = (powW c w)[k]'(by omega) → Z4_J2 ((powW c w).take k) (k : Int) y = some (.inl ((powW c w).take (k + 1), ((k + 1 : Nat) : Int))) := by
          rintro y rfl
          unfold Z4_J2
          rw [if_pos (by simp; omega), wi (by omega) hlt, List.take_succ_eq_append_getElem (by omega)]
        by_cases hp : c.Power = 2
        · rw [if_pos (by simpa using hp), w64_id (by omega) (by omega)]
          refine hJ _ ?_
          unfold powW
          simp only [hp, if_true, List.getElem_map, ix_at hlt]
        · rw [if_neg (by simpa using hp)]
          refine hJ _ ?_
          unfold powW
          simp only [hp, if_false, ix_at hlt]
      rw [loopM_next (s' := ((powW c w).take (k + 1), ((k + 1 : Nat) : Int))) hf]
      exact ih (k + 1) (by omega)
  exact key w.length 0 (by omega)
theorem pow_i (c : Choice) (w : List Int) (hw : all3 0 1000 w = true) (hl : w.length ≤ 64) : Z7 c w = Z7_J1 c (powW c w) := by
  unfold Z7
  rw [cloneI_eq _ (by omega), Option.bind_some]
  by_cases hp : c.Power = 2
  · rw [if_pos (by simpa using hp)]
    unfold Z0b
    rw [if_pos ⟨by omega, by omega, by omega⟩]
    have hW : powW c w = w.map (fun x => x * x) := if_pos hp
    have key : ∀ (m k : Nat), k + m = w.length → loopM (fun s : (List Int) × Int => Z0b_L1 w s.1 s.2) ((powW c w).take k ++ List.replicate m (0 : Int), (k : Int)) = some (powW c w) := by
      intro m
      induction m with
      | zero =>
        intro k hk
        obtain rfl : k = w.length := by omega
        refine loopM_end ?_
        show Z0b_L1 w _ _ = _
        unfold Z0b_L1
        rw [nlt_, List.take_of_length_le (by rw [hW]; simp)]
        simp
      | succ m ih =>
        intro k hk
        have hlt : k < w.length := by omega
        have hx := all3_mem hw (ix_mem hlt)
        have hnn : 0 ≤ ix w (k : Int) * ix w (k : Int) := Int.mul_nonneg hx.1 hx.1
        have hmm : ix w (k : Int) * ix w (k : Int) ≤ 1000 * 1000 := Int.mul_le_mul hx.2 hx.2 hx.1 (by decide)
        rw [loopM_next (s' := ((powW c w).take (k + 1) ++ List.replicate m (0 : Int), ((k + 1 : Nat) : Int)))]
        · exact ih (k + 1) (by omega)
        · show Z0b_L1 w ((powW c w).take k ++ List.replicate (m + 1) (0 : Int)) (k : Int) = _
          unfold Z0b_L1 Z1h
          rw [if_pos (lt_ hlt), if_pos (inr_ hlt), Option.bind_some, if_pos ⟨by omega, by simp; omega⟩, wi (by omega) hlt, w64_id (by omega) (by omega)]
          have hlen : ((powW c w).take k).length = k := by rw [List.length_take, hW]; simp; omega
          rw [Int.toNat_natCast, List.replicate_succ, List.set_append_right _ _ (by omega), hlen, Nat.sub_self, List.set_cons_zero]
          rw [List.take_succ_eq_append_getElem (by rw [hW]; simpa using hlt)]
          simp only [List.append_assoc, List.cons_append, List.nil_append]
          congr 5
          simp only [hW, List.getElem_map, ix_at hlt]
    have := key w.length 0 (by omega)
    rw [show ((w.length : Int)).toNat = w.length from Int.toNat_natCast _]
    rw [List.take_zero, List.nil_append] at this
    rw [show ((0 : Nat) : Int) = 0 from rfl] at this
    rw [this]; rfl
  · rw [if_neg (by simpa using hp)]
    unfold powW
    rw [if_neg hp]
theorem powW_all (c : Choice) (w : List Int) (hw : all3 0 1000 w = true) : all3 0 1048576 (powW c w) = true := by
  unfold all3
  rw [List.all_eq_true]
  intro x hx
  have : 0 ≤ x ∧ x ≤ 1048576 := by
    unfold powW at hx
    split at hx
    · obtain ⟨y, hy, rfl⟩ := List.mem_map.1 hx
      have h1 := all3_mem hw hy
      have := Int.mul_nonneg h1.1 h1.1
      have := Int.mul_le_mul h1.2 h1.2 h1.1 (by decide)
      omega
    · have := all3_mem hw hx; omega
  simpa using this
theorem powW_pos (c : Choice) (w : List Int) (hz : (w.all (fun x => 0 == x)) = false) : ∃ x ∈ powW c w, x ≠ 0 := by
  have : ∃ x ∈ w, x ≠ 0 := by
    rw [List.all_eq_false] at hz
    obtain ⟨x, hx, h⟩ := hz
    exact ⟨x, hx, fun e => h (by simp [e])⟩
  obtain ⟨x, hx, h0⟩ := this
  unfold powW
  split
  · exact ⟨x * x, List.mem_map.2 ⟨x, hx, rfl⟩, by
      intro h; rcases Int.mul_eq_zero.1 h with h | h <;> exact h0 h⟩
  · exact ⟨x, hx, h0⟩
theorem powW_len (c : Choice) (w : List Int) : (powW c w).length = w.length := by unfold powW; split <;> simp
def cutN (c : Choice) (n : Nat) : Nat := if c.Cut = 0 then n else min c.Cut.toNat n
theorem sel_s (c : Choice) (hc : ChP c) (W X : List Int) (hO : Odr W X) (hl : W.length ≤ 64) : loopM (fun s : (List Int) × (List Bool) × Int => Z4_L2 c W s.1 s.2.1 s.2.2) (([] : List Int), (List.replicate (W.length : Int).toNat false), (0 : Int)) = some (X.take (cutN c W.length)) := by
  have hc0 := hc.k
  have hXl := hO.len
  have hN : cutN c W.length ≤ W.length := by unfold cutN; split <;> omega
  have key : ∀ (m k : Nat) (S : List Bool), k + m = cutN c W.length → Tk S W X k → loopM (fun s : (List Int) × (List Bool) × Int => Z4_L2 c W s.1 s.2.1 s.2.2) (X.take k, S, (k : Int)) = some (X.take (cutN c W.length)) := by
    intro m
    induction m with
    | zero =>
      intro k S hk hS
      obtain rfl : k = cutN c W.length := by omega
      refine loopM_end ?_
      show Z4_L2 c W _ S _ = _
      unfold Z4_L2
      rw [if_neg]
      unfold cutN
      simp only [Bool.and_eq_true, Bool.or_eq_true, decide_eq_true_eq, beq_iff_eq]
      split <;> omega
    | succ m ih =>
      intro k S hk hS
      have hkN : k < W.length := by omega
      have hnX : k < X.length := by omega
      have hr := hO.rng hnX
      have hf : Z4_L2 c W (X.take k) S (k : Int) = some (.inl (X.take (k + 1), S.set (ix X (k : Int)).toNat true, ((k + 1 : Nat) : Int))) := by
        unfold Z4_L2
        rw [if_pos (by
          simp only [Bool.and_eq_true, Bool.or_eq_true, decide_eq_true_eq, beq_iff_eq]
          unfold cutN at hk
          split at hk <;> omega), gt_at hO S k hkN hS (by omega), Option.bind_some, if_pos ⟨hr.1, by simpa using hr.2⟩, if_pos (by simp; omega), wi (by omega) hkN, List.take_succ_eq_append_getElem hnX, ← ix_at hnX]
      rw [loopM_next (s' := (X.take (k + 1), S.set (ix X (k : Int)).toNat true, ((k + 1 : Nat) : Int))) hf]
      exact ih (k + 1) _ (by omega) (hS.next hO hkN)
  have := key (cutN c W.length) 0 (List.replicate (W.length : Int).toNat false) (by omega) ⟨by simp, fun j hj => by
    constructor
    · intro h
      unfold ix at h
      simp only [Int.toNat_natCast, List.getD_eq_getElem?_getD, List.getElem?_replicate] at h
      split at h <;> simp at h
    · simp⟩
  exact this
structure Out (n : Nat) (F : List Int) : Prop where
  l : F.length = n
  a : ∀ x ∈ F, 0 ≤ x ∧ x ≤ 1048576
theorem Out.set {n : Nat} {F : List Int} (h : Out n F) (i : Nat) {v : Int} (hv : 0 ≤ v ∧ v ≤ 1048576) : Out n (F.set i v) := ⟨by rw [List.length_set]; exact h.l, fun x hx => by
  rcases List.mem_or_eq_of_mem_set hx with h1 | rfl
  · exact h.a x h1
  · exact hv⟩
theorem mass_eq (c : Choice) (hc : ChP c) (W O : List Int) (hW : all3 0 1048576 W = true) (hl : W.length ≤ 64) (hO : ∀ k : Nat, k < O.length → 0 ≤ ix O (k : Int) ∧ ix O (k : Int) < (W.length : Int)) (hOl : O.length ≤ 64) (S : Int) (hS0 : 0 ≤ S) (hS : S ≤ 67108864) :
    ∀ (m k : Nat) (out : List Int) (sum : Int), k + m = O.length → sum * 65536 < c.Mass * S → 0 ≤ sum → sum ≤ 1048576 * k → Out W.length out →
      ∃ F, loopM (fun s : (List Int) × Int × Int => Z4_L4 c W O S s.1 s.2.1 s.2.2) (out, sum, (k : Int)) = some F ∧ loopM (fun s : (List Int) × Int × Int => Z7_L2 c W O S s.1 s.2.1 s.2.2) (out, sum, (k : Int)) = some F ∧ Out W.length F := by
  have hm := hc.m
  have hMS : c.Mass * S ≤ 65536 * 67108864 := Int.mul_le_mul hm.2 hS hS0 (by decide)
  have hMS0 : 0 ≤ c.Mass * S := Int.mul_nonneg (by omega) hS0
  intro m
  induction m with
  | zero =>
    intro k out sum hk _ _ _ ho
    obtain rfl : k = O.length := by omega
    refine ⟨out, loopM_end ?_, loopM_end ?_, ho⟩
    · show Z4_L4 c W O S out sum _ = _
      unfold Z4_L4
      rw [nlt_]; rfl
    · show Z7_L2 c W O S out sum _ = _
      unfold Z7_L2
      rw [nlt_]; rfl
  | succ m ih =>
    intro k out sum hk hlt h0 h1 ho
    have hkO : k < O.length := by omega
    have hr := hO k hkO
    have hx := all3_mem hW (ix_mem (xs := W) (k := (ix O (k : Int)).toNat) (by omega))
    rw [Int.toNat_of_nonneg hr.1] at hx
    have hrep : (ix O (k : Int)) < ((List.replicate (W.length : Int).toNat (0 : Int)).length : Int) := by simpa using hr.2
    have e1 : w64 (sum + ix W (ix O (k : Int))) = sum + ix W (ix O (k : Int)) := w64_id (by omega) (by omega)
    have e2 : w64 (c.Mass * S) = c.Mass * S := w64_id (by omega) (by omega)
    have e3 : w64 (sum * 65536) = sum * 65536 := w64_id (by omega) (by omega)
    have e4 : w64 ((sum + ix W (ix O (k : Int))) * 65536) = (sum + ix W (ix O (k : Int))) * 65536 := w64_id (by omega) (by omega)
    have ho' := ho.set (ix O (k : Int)).toNat hx
    have hs : Z4_L4 c W O S out sum (k : Int) = some (.inl (out.set (ix O (k : Int)).toNat (ix W (ix O (k : Int))), sum + ix W (ix O (k : Int)), ((k + 1 : Nat) : Int))) := by
      unfold Z4_L4
      rw [e2, e3, lt_ hkO, decide_eq_true hlt, Bool.and_self, if_pos rfl, if_pos (inr_ hkO), if_pos hr, if_pos ⟨hr.1, hrep⟩, nm_bind, e1, wi (by omega) hkO]
    have hi : Z7_L2 c W O S out sum (k : Int) = some (if decide ((sum + ix W (ix O (k : Int))) * 65536 ≥ c.Mass * S) = true then .inr (out.set (ix O (k : Int)).toNat (ix W (ix O (k : Int)))) else .inl (out.set (ix O (k : Int)).toNat (ix W (ix O (k : Int))), sum + ix W (ix O (k : Int)), ((k + 1 : Nat) : Int))) := by
      unfold Z7_L2
      rw [if_pos (lt_ hkO), if_pos (inr_ hkO), if_pos hr, if_pos ⟨hr.1, hrep⟩, e1, e2, e4, wi (by omega) hkO]
      split <;> rfl
    rw [loopM_next (s' := (_, _, _)) hs]
    by_cases hb : (sum + ix W (ix O (k : Int))) * 65536 ≥ c.Mass * S
    · rw [if_pos (by simpa using hb)] at hi
      refine ⟨_, loopM_end ?_, loopM_end hi, ho'⟩
      show Z4_L4 c W O S _ _ _ = _
      unfold Z4_L4
      rw [e2, e4, if_neg (by simp; intro _; omega)]
    · rw [if_neg (by simpa using hb)] at hi
      rw [show loopM (fun s : (List Int) × Int × Int => Z7_L2 c W O S s.1 s.2.1 s.2.2) (out, sum, (k : Int)) = loopM (fun s : (List Int) × Int × Int => Z7_L2 c W O S s.1 s.2.1 s.2.2) (out.set (ix O (k : Int)).toNat (ix W (ix O (k : Int))), sum + ix W (ix O (k : Int)), ((k + 1 : Nat) : Int)) from loopM_next hi]
      exact ih (k + 1) _ _ (by omega) (by omega) (by omega) (by omega) ho'
theorem sum_ge {l : List Int} (h : ∀ x ∈ l, 0 ≤ x) {x : Int} (hx : x ∈ l) : x ≤ l.sum := by
  induction l with
  | nil => cases hx
  | cons y t ih =>
    rw [List.sum_cons]
    have h0 := sum_nn t (fun z hz => h z (by simp [hz]))
    have hy := h y (by simp)
    rcases List.mem_cons.1 hx with h1 | h1
    · omega
    · have := ih (fun z hz => h z (by simp [hz])) h1
      omega
open Classical in
theorem filter_ok (c : Choice) (hc : ChP c) (w : List Int) (hw : all3 0 1000 w = true) (hz : (w.all (fun x => 0 == x)) = false) (hl : w.length ≤ 64) :
    ∃ F, Z4 c w = some F ∧ Z7 c w = some F ∧ Out w.length F := by
  have hWl := powW_len c w
  have hWa := powW_all c w hw
  obtain ⟨x0, hx0, hx0'⟩ := powW_pos c w hz
  obtain ⟨X, e1, p, o⟩ := inOrder_eq (powW c w) (by omega)
  have hO : Odr (powW c w) X := ⟨p, o⟩
  have hXl := hO.len
  have hc0 := hc.k
  have hm := hc.m
  have hpos : 0 < (powW c w).length := List.length_pos_of_mem hx0
  have hN : cutN c (powW c w).length ≤ (powW c w).length := by unfold cutN; split <;> omega
  have hN0 : 0 < cutN c (powW c w).length := by unfold cutN; split <;> omega
  have hTl : (X.take (cutN c (powW c w).length)).length = cutN c (powW c w).length := by rw [List.length_take]; omega
  have hTi : ∀ k : Nat, k < cutN c (powW c w).length → ix (X.take (cutN c (powW c w).length)) (k : Int) = ix X (k : Int) := fun k hk => by
    rw [ix_at (by omega), ix_at (by omega), List.getElem_take]
  have hTr : ∀ k : Nat, k < (X.take (cutN c (powW c w).length)).length → 0 ≤ ix (X.take (cutN c (powW c w).length)) (k : Int) ∧ ix (X.take (cutN c (powW c w).length)) (k : Int) < ((powW c w).length : Int) := fun k hk => by
    rw [hTi k (by omega)]; exact hO.rng (by omega)
  have hg : ∀ k : Nat, k < (X.take (cutN c (powW c w).length)).length → 0 ≤ ix (powW c w) (ix (X.take (cutN c (powW c w).length)) (k : Int)) ∧ ix (powW c w) (ix (X.take (cutN c (powW c w).length)) (k : Int)) ≤ 1048576 := fun k hk => by
    have hr := hTr k hk
    have hx := all3_mem hWa (ix_mem (xs := powW c w) (k := (ix (X.take (cutN c (powW c w).length)) (k : Int)).toNat) (by omega))
    rw [Int.toNat_of_nonneg hr.1] at hx
    exact hx
  obtain ⟨s1, s2, s3⟩ := sum_loop (f := fun s : Int × Int => Z7_L1 (powW c w) (X.take (cutN c (powW c w).length)) s.1 s.2) (X.take (cutN c (powW c w).length)).length (fun k : Nat => ix (powW c w) (ix (X.take (cutN c (powW c w).length)) (k : Int))) (fun x k hk => by
    show Z7_L1 _ _ x (k : Int) = _
    unfold Z7_L1
    rw [if_pos (lt_ hk), if_pos (inr_ hk), if_pos (hTr k hk)]) (fun x => by
    show Z7_L1 _ _ x _ = _
    unfold Z7_L1
    rw [nlt_]; rfl) hg (by omega)
  have hS0 : 0 < ((List.range (X.take (cutN c (powW c w).length)).length).map (fun k : Nat => ix (powW c w) (ix (X.take (cutN c (powW c w).length)) (k : Int)))).sum := by
    have h1 := sum_ge (l := (List.range (X.take (cutN c (powW c w).length)).length).map (fun k : Nat => ix (powW c w) (ix (X.take (cutN c (powW c w).length)) (k : Int)))) (fun x hx => by
      obtain ⟨k, hk, rfl⟩ := List.mem_map.1 hx
      exact (hg k (List.mem_range.1 hk)).1) (List.mem_map.2 ⟨0, List.mem_range.2 (by omega), rfl⟩)
    rw [hTi 0 hN0] at h1
    have h2 : 0 < ix (powW c w) (ix X ((0 : Nat) : Int)) := by
      obtain ⟨j, hj, rfl⟩ := List.getElem_of_mem hx0
      have h3 := all3_mem hWa hx0
      have hjm : (j : Int) ∈ X := hO.mem.2 ⟨by omega, by omega⟩
      obtain ⟨i, hi, he⟩ := List.getElem_of_mem hjm
      rcases Nat.eq_zero_or_pos i with rfl | hi0
      · rw [ix_at hi, he, ix_at hj]; omega
      · have h4 := List.pairwise_iff_getElem.1 hO.o 0 i (by omega) hi hi0
        rw [he] at h4
        rw [ix_at (show 0 < X.length by omega)]
        unfold TT at h4
        rw [ix_at hj] at h4
        omega
    omega
  obtain ⟨F, f1, f2, f3⟩ := mass_eq c hc (powW c w) (X.take (cutN c (powW c w).length)) hWa (by omega) hTr (by omega) _ (Int.le_of_lt hS0) (by omega) (X.take (cutN c (powW c w).length)).length 0 (List.replicate (powW c w).length (0 : Int)) 0 (by omega) (by
    rw [Int.zero_mul]; exact Int.mul_pos (by omega) hS0) (Int.le_refl _) (by simp) ⟨by simp, fun x hx => by
      rw [(List.mem_replicate.1 hx).2]; decide⟩
  refine ⟨F, ?_, ?_, by rw [← hWl]; exact f3⟩
  · unfold Z4
    rw [ch_s, decide_eq_true hc, Option.bind_some, wts_eq _ (by omega), hw, hz]
    simp only [Bool.not_true, Bool.false_or, Bool.not_false, Bool.and_self]
    rw [show decide ((w.length : Int) > 64) = false by simp; omega]
    simp only [gcall, Bool.not_false, cond_true, Option.bind_some, Bool.not_true, Bool.false_or, Bool.false_eq_true, if_false]
    rw [pow_s c w hw hl, Option.bind_some]
    unfold Z4_J3
    rw [if_pos ⟨by omega, by omega, by omega⟩, sel_s c hc _ X hO (by omega), Option.bind_some]
    unfold Z4_J4
    rw [show loopM (fun s : Int × Int => Z4_L3 (powW c w) (X.take (cutN c (powW c w).length)) s.1 s.2) ((0 : Int), (0 : Int)) = _ from s1, Option.bind_some]
    unfold Z4_J5
    rw [if_pos ⟨by omega, by omega, by omega⟩, Int.toNat_natCast]
    rw [show ((0 : Nat) : Int) = 0 from rfl] at f1
    rw [f1]; rfl
  · rw [pow_i c w hw hl]
    unfold Z7_J1
    rw [e1, Option.bind_some]
    have hJ2 : Z7_J2 c (powW c w) (X.take (cutN c (powW c w).length)) = some F := by
      unfold Z7_J2
      rw [s1, Option.bind_some]
      unfold Z7_J3
      rw [if_pos ⟨by omega, by omega, by omega⟩, Int.toNat_natCast]
      rw [show ((0 : Nat) : Int) = 0 from rfl] at f2
      rw [f2]; rfl
    by_cases h0 : c.Cut = 0
    · rw [if_neg (by simp [h0])]
      have : X.take (cutN c (powW c w).length) = X := by
        unfold cutN
        rw [if_pos h0, List.take_of_length_le (by omega)]
      rw [this] at hJ2
      exact hJ2
    · have e5 : (if (X.length : Int) < c.Cut then (X.length : Int) else c.Cut) = ((cutN c (powW c w).length : Nat) : Int) := by
        unfold cutN
        rw [if_neg h0]
        split <;> omega
      rw [if_pos (by simp; omega), e5, if_pos ⟨by omega, by omega, by omega⟩]
      have e6 : sub X 0 ((cutN c (powW c w).length : Nat) : Int) = X.take (cutN c (powW c w).length) := by simp [sub]
      rw [e6]
      exact hJ2
def nx (p : Int) : Int := (1664525 * p + 1013904223) % 4294967296
theorem nx_rng (p : Int) : 0 ≤ nx p ∧ nx p < 4294967296 := by unfold nx; omega
theorem and32 (n : Nat) (h : n < 9223372036854775808) : bits .and .i64 (n : Int) 4294967295 = ((n % 4294967296 : Nat) : Int) := by
  have h1 : (BitVec.ofInt 64 (n : Int)).toNat = n := by
    rw [BitVec.ofInt_natCast, BitVec.toNat_ofNat]; exact Nat.mod_eq_of_lt (by omega)
  have h2 : (BitVec.ofInt 64 (4294967295 : Int)).toNat = 4294967295 := by decide
  show IntKind.i64.wrap ((BitVec.ofInt 64 (n : Int) &&& BitVec.ofInt 64 (4294967295 : Int)).toNat : Int) = _
  rw [BitVec.toNat_and, h1, h2, show (4294967295 : Nat) = 2 ^ 32 - 1 from rfl, Nat.and_two_pow_sub_one_eq_mod]
  rw [show (2 : Nat) ^ 32 = 4294967296 from rfl]
  exact w64_id (by omega) (by omega)
theorem nx_s {p : Int} (h0 : 0 ≤ p) (h1 : p < 4294967296) : Z11 p = some (nx p) := by
  unfold Z11 Z0j
  rw [Option.bind_some, if_neg (by simp; omega), show w64 ((1664525 : Int) * p) = 1664525 * p from w64_id (by omega) (by omega), w64_id (by omega) (by omega)]
  obtain ⟨q, rfl⟩ := Int.eq_ofNat_of_zero_le h0
  rw [show (1664525 : Int) * (q : Int) + 1013904223 = ((1664525 * q + 1013904223 : Nat) : Int) by omega, and32 _ (by omega)]
  unfold nx
  congr 1
theorem nx_i {p : Int} (h0 : 0 ≤ p) (h1 : p < 4294967296) : Z12 p = some (nx p) := by
  unfold Z12 Z0i
  rw [Option.bind_some, if_neg (by simp; omega), show w64 ((1664525 : Int) * p) = 1664525 * p from w64_id (by omega) (by omega), w64_id (by omega) (by omega)]
  unfold nx
  rw [Int.tmod_eq_emod_of_nonneg (by omega)]
def stt (seed : Int) : Nat → Int
  | 0 => seed
  | k + 1 => nx (stt seed k)
theorem stt_rng {seed : Int} (h0 : 0 ≤ seed ∧ seed < 4294967296) (k : Nat) : 0 ≤ stt seed k ∧ stt seed k < 4294967296 := by
  cases k with
  | zero => exact h0
  | succ k => exact nx_rng _
theorem stt_s {seed : Int} (h0 : 0 ≤ seed ∧ seed < 4294967296) (i : Nat) (hi : i ≤ 1048576) : loopM (fun s : Int × Int => Zg_L1 (i : Int) s.1 s.2) (seed, (0 : Int)) = some (stt seed i) := by
  have key : ∀ (m k : Nat), k + m = i → loopM (fun s : Int × Int => Zg_L1 (i : Int) s.1 s.2) (stt seed k, (k : Int)) = some (stt seed i) := by
    intro m
    induction m with
    | zero =>
      intro k hk
      obtain rfl : k = i := by omega
      refine loopM_end ?_
      show Zg_L1 (k : Int) (stt seed k) (k : Int) = _
      unfold Zg_L1
      rw [nlt_]; rfl
    | succ m ih =>
      intro k hk
      have hf : Zg_L1 (i : Int) (stt seed k) (k : Int) = some (.inl (stt seed (k + 1), ((k + 1 : Nat) : Int))) := by
        unfold Zg_L1
        have hr := stt_rng h0 k
        rw [if_pos (lt_ (by omega)), nx_s hr.1 hr.2, Option.bind_some, wi hi (by omega)]; rfl
      rw [loopM_next (s' := (stt seed (k + 1), ((k + 1 : Nat) : Int))) hf]
      exact ih (k + 1) (by omega)
  exact key i 0 (by omega)
def stts (seed : Int) (n : Nat) : List Int := (List.range n).map (stt seed)
theorem stts_at (seed : Int) {n k : Nat} (h : k < n) : ix (stts seed n) (k : Int) = stt seed k := by
  unfold stts
  rw [ix_at (by simpa using h)]; simp
theorem tk_ok (m : Lm) (hB : Bnd m.Rows) (hn : m.Rows.length < 65536) (c : Choice) {seed : Int} (h0 : 0 ≤ seed ∧ seed < 4294967296) (n : Nat) (hn2 : n ≤ 1048576) : ∃ s, Zs m c (n : Int) seed = some ⟨s, c, stts seed n⟩ ∧ Srtd m.Rows s := by
  obtain ⟨s, e1, e2⟩ := rows_ok m hB hn
  refine ⟨s, ?_, e2⟩
  have key : ∀ (t k : Nat), k + t = n → loopM (fun s : Int × (List Int) × Int => Zs_L1 (n : Int) s.1 s.2.1 s.2.2) (stt seed k, stts seed k, (k : Int)) = some (stts seed n) := by
    intro t
    induction t with
    | zero =>
      intro k hk
      obtain rfl : k = n := by omega
      refine loopM_end ?_
      show Zs_L1 (k : Int) _ _ (k : Int) = _
      unfold Zs_L1
      rw [nlt_]; rfl
    | succ t ih =>
      intro k hk
      have hr := stt_rng h0 k
      have hf : Zs_L1 (n : Int) (stt seed k) (stts seed k) (k : Int) = some (.inl (stt seed (k + 1), stts seed (k + 1), ((k + 1 : Nat) : Int))) := by
        unfold Zs_L1
        rw [if_pos (lt_ (by omega)), if_pos (by simp [stts]; omega), nx_i hr.1 hr.2, Option.bind_some, wi hn2 (by omega)]
        unfold stts
        rw [List.range_succ, List.map_append]; rfl
      rw [loopM_next (s' := (stt seed (k + 1), stts seed (k + 1), ((k + 1 : Nat) : Int))) hf]
      exact ih (k + 1) (by omega)
  unfold Zs
  rw [e1, Option.bind_some]
  have := key n 0 (by omega)
  rw [show loopM (fun s : Int × (List Int) × Int => Zs_L1 (n : Int) s.1 s.2.1 s.2.2) (seed, ([] : List Int), (0 : Int)) = some (stts seed n) from this]
  rfl
theorem below_eq {p : Int} (h0 : 0 ≤ p ∧ p < 4294967296) (n : Int) : ∃ r, Z17 p n = some r ∧ Z18 p n = some r := by
  by_cases h : 1 ≤ n ∧ n ≤ 2147483648
  · refine ⟨((w64 (nx p * n)) / 2 ^ (32 : Int).toNat, nx p), ?_, ?_⟩
    · unfold Z17 Z0j Zf
      rw [Option.bind_some, nx_s h0.1 h0.2]
      simp [gcall, h0, h]
    · unfold Z18 Z0i Zx
      rw [Option.bind_some, nx_i h0.1 h0.2]
      simp [gcall, h0, h]
  · refine ⟨(0, p), ?_, ?_⟩
    · unfold Z17 Z0j Zf
      rw [Option.bind_some]
      simp only [gcall, h0, decide_true, Bool.and_self, Bool.not_true, Bool.not_false, cond_true, Option.bind_some, ge_iff_le, Bool.false_or]
      rw [if_pos (by simp; omega)]
    · unfold Z18 Z0i Zx
      rw [Option.bind_some]
      simp only [gcall, h0, decide_true, Bool.and_self, Bool.not_true, Bool.not_false, cond_true, Option.bind_some, ge_iff_le, Bool.false_or]
      rw [if_pos (by simp; omega)]
theorem pick_eq {n : Nat} {F : List Int} (h : Out n F) (hn : n ≤ 64) (r : Int) : ∃ t, Zm F r = some t ∧ Zp F r = some t := by
  have hl := h.l
  have ha : all3 0 1048576 F = true := by
    unfold all3
    rw [List.all_eq_true]
    intro x hx
    have := h.a x hx
    simpa using this
  have e64 : decide ((F.length : Int) > 64) = false := by simp; omega
  have ei : Zp F r = if decide (r < 0) = true then some (-1) else (loopM (fun s : Int × Int => Zp_L1 F r s.1 s.2) ((0 : Int), (0 : Int))).bind fun e => match e with | .inl e => some e | .inr e => Zp_J1 := by
    unfold Zp
    rw [allW_eq _ _ _ (by omega), ha, e64]
    rfl
  have es : Zm F r = if decide (r < 0) = true then some (-1) else (loopM (fun s : Int × Int => Zp_L1 F r s.1 s.2) ((0 : Int), (0 : Int))).bind fun e => match e with | .inl e => some e | .inr e => Zp_J1 := by
    unfold Zm
    rw [e64, Bool.false_or]
    by_cases hr : decide (r < 0) = true
    · rw [if_pos hr, if_pos hr]
    · rw [if_neg hr, if_neg hr]
      rw [loop_all F (fun s : Int => Zm_L1 F s) (fun i => i) (fun x => decide (x ≥ 0) && decide (x ≤ 1048576)) (.inl (-1)) (.inr ()) (fun k hk => by
        unfold Zm_L1 Zf
        rw [if_pos (lt_ hk), if_pos (inr_ hk), Option.bind_some, wi (by omega) hk]
        cases (decide (ix F (k : Int) ≥ 0) && decide (ix F (k : Int) ≤ 1048576)) <;> rfl) (by
        unfold Zm_L1
        rw [nlt_]; rfl)]
      unfold all3 at ha
      rw [ha]; rfl
  have tot : ∃ e, loopM (fun s : Int × Int => Zp_L1 F r s.1 s.2) ((0 : Int), (0 : Int)) = some e := by
    have key : ∀ (m k : Nat) (sum : Int), k + m = F.length → 0 ≤ sum → sum ≤ 1048576 * k → ∃ e, loopM (fun s : Int × Int => Zp_L1 F r s.1 s.2) (sum, (k : Int)) = some e := by
      intro m
      induction m with
      | zero =>
        intro k sum hk _ _
        obtain rfl : k = F.length := by omega
        refine ⟨.inr (), loopM_end ?_⟩
        show Zp_L1 F r sum _ = _
        unfold Zp_L1
        rw [nlt_]; rfl
      | succ m ih =>
        intro k sum hk h0 h1
        have hlt : k < F.length := by omega
        have hx := h.a _ (ix_mem hlt)
        have hf : Zp_L1 F r sum (k : Int) = if decide (sum + ix F (k : Int) > r) = true then some (.inr (.inl (k : Int))) else some (.inl (sum + ix F (k : Int), ((k + 1 : Nat) : Int))) := by
          unfold Zp_L1
          rw [if_pos (lt_ hlt), if_pos (inr_ hlt), w64_id (by omega) (by omega), wi (by omega) hlt]
        by_cases hc : decide (sum + ix F (k : Int) > r) = true
        · rw [if_pos hc] at hf
          exact ⟨_, loopM_end hf⟩
        · rw [if_neg hc] at hf
          rw [loopM_next (s' := (_, _)) hf]
          exact ih (k + 1) _ (by omega) (by omega) (by omega)
    exact key F.length 0 0 (by omega) (by omega) (by omega)
  obtain ⟨e, he⟩ := tot
  rw [es, ei, he]
  by_cases hr : decide (r < 0) = true
  · rw [if_pos hr]; exact ⟨_, rfl, rfl⟩
  · rw [if_neg hr]
    cases e with
    | inl e => exact ⟨_, rfl, rfl⟩
    | inr e => exact ⟨_, rfl, rfl⟩
theorem say_ok (m : Lm) (hB : Bnd m.Rows) (hP : LmP m) (s : List Row) (hs : Srtd m.Rows s) (c : Choice) (hc : ChP c) {seed : Int} (h0 : 0 ≤ seed ∧ seed < 4294967296) (n i : Nat) (hi : i < n) (hn : n ≤ 1048576) (h : List Int) (hl : h.length ≤ 1048576) :
    ∃ t, Zg m c h seed (i : Int) = some t ∧ Ze ⟨s, c, stts seed n⟩ h (i : Int) = some t := by
  obtain ⟨r, hr, w1, w2⟩ := weigh_of m hB hP s hs h hl
  have hrow := hP.r r hr
  unfold rowB at hrow
  simp only [Bool.and_eq_true, Bool.not_eq_true', bne_eq_false_iff_eq] at hrow
  obtain ⟨⟨-, q1⟩, q2, q3⟩ := hrow
  have hsz := hP.s
  obtain ⟨F, f1, f2, f3⟩ := filter_ok c hc r.Weights q2 q3 (by omega)
  have hFl := f3.l
  have hFa : all3 0 1048576 F = true := by
    unfold all3
    rw [List.all_eq_true]
    intro x hx
    have := f3.a x hx
    simpa using this
  obtain ⟨s1, s2, s3⟩ := sum_eq F hFa (by omega)
  obtain ⟨b, b1, b2⟩ := below_eq (stt_rng h0 i) F.sum
  obtain ⟨t, t1, t2⟩ := pick_eq f3 (by omega) b.1
  refine ⟨t, ?_, ?_⟩
  · unfold Zg
    rw [stt_s h0 i (by omega), Option.bind_some]
    unfold Zg_J1
    rw [w1, Option.bind_some, f1, Option.bind_some, s1, Option.bind_some, b1, Option.bind_some, t1]; rfl
  · unfold Ze
    simp only []
    rw [w2, Option.bind_some, f2, Option.bind_some]
    have hsl : loopM (fun s : Int × Int => Ze_L1 F s.1 s.2) ((0 : Int), (0 : Int)) = some F.sum := by
      have : Zy F = (loopM (fun s : Int × Int => Ze_L1 F s.1 s.2) ((0 : Int), (0 : Int))).bind some := rfl
      rw [s1] at this
      cases hx : loopM (fun s : Int × Int => Ze_L1 F s.1 s.2) ((0 : Int), (0 : Int)) with
      | none => rw [hx] at this; cases this
      | some y => rw [hx] at this; exact this.symm
    rw [hsl, Option.bind_some]
    unfold Ze_J1
    rw [if_pos ⟨by simp, by simp [stts]; omega⟩]
    simp only []
    rw [stts_at seed hi, b2, Option.bind_some, t2]; rfl
open Classical in
theorem prompt_eq (m : Lm) (hB : Bnd m.Rows) (p : List Int) (n : Int) (hp : p.length ≤ 1048576) :
    Z0x m p n = some (decide (LmP m) && decide ((p.length : Int) ≤ 1700) && all3 0 (w64 (m.Size - 1)) p && (decide (n ≥ 0) && decide (n ≤ 300))) ∧
    Z0z m p n = some (decide (LmP m) && decide ((p.length : Int) ≤ 1700) && all3 0 (w64 (m.Size - 1)) p && (decide (n ≥ 0) && decide (n ≤ 300))) := by
  unfold Z0x Z0z Zf Zx
  rw [specOk m hB, implOk m hB, toks_eq _ _ hp, allW_eq _ _ _ hp]
  simp only [Option.bind_some]
  constructor
  · cases (decide (LmP m)) <;> cases (decide ((p.length : Int) ≤ 1700)) <;> cases (all3 0 (w64 (m.Size - 1)) p) <;> rfl
  · cases (decide (LmP m)) <;> cases (decide ((p.length : Int) ≤ 1700)) <;> cases (all3 0 (w64 (m.Size - 1)) p) <;> rfl
def samp (N : List Int → Nat → Int) (p : List Int) : Nat → List Int
  | 0 => []
  | k + 1 => samp N p k ++ [N (p ++ samp N p k) k]
theorem samp_succ (N : List Int → Nat → Int) (p : List Int) (k : Nat) : samp N p (k + 1) = samp N p k ++ [N (p ++ samp N p k) k] := rfl
theorem samp_len (N : List Int → Nat → Int) (p : List Int) (k : Nat) : (samp N p k).length = k := by
  induction k with
  | zero => rfl
  | succ k ih => simp [samp, ih]
theorem samp_take (N : List Int → Nat → Int) (p : List Int) {k n : Nat} (h : k ≤ n) : (samp N p n).take k = samp N p k := by
  induction n with
  | zero => obtain rfl : k = 0 := by omega
            rfl
  | succ n ih =>
    rcases Nat.eq_or_lt_of_le h with rfl | h1
    · rw [List.take_of_length_le (by rw [samp_len]; omega)]
    · rw [samp_succ N p n, List.take_append_of_le_length (by rw [samp_len]; omega)]
      exact ih (by omega)
theorem samp_at (N : List Int → Nat → Int) (p : List Int) {k n : Nat} (h : k < n) : ix (samp N p n) (k : Int) = N (p ++ samp N p k) k := by
  have h1 : k < (samp N p n).length := by rw [samp_len]; exact h
  have h2 := samp_take N p (show k + 1 ≤ n from h)
  rw [ix_at h1]
  have h3 : ((samp N p n).take (k + 1))[k]? = (samp N p n)[k]? := by rw [List.getElem?_take, if_pos (by omega)]
  rw [h2] at h3
  rw [samp_succ] at h3
  rw [List.getElem?_append_right (by rw [samp_len]; omega), samp_len, Nat.sub_self, List.getElem?_eq_getElem h1] at h3
  simpa using h3.symm
def run (q : Nat → Bool) : Nat → Nat → Nat × Bool
  | 0, k => (k, true)
  | m + 1, k => if q k then run q m (k + 1) else (k + 1, false)
theorem run_le (q : Nat → Bool) (m k : Nat) : k ≤ (run q m k).1 ∧ (run q m k).1 ≤ k + m := by
  induction m generalizing k with
  | zero => exact ⟨Nat.le_refl _, Nat.le_refl _⟩
  | succ m ih =>
    unfold run
    have := ih (k + 1)
    split
    · omega
    · show k ≤ k + 1 ∧ k + 1 ≤ k + (m + 1)
      omega
theorem run_pos (q : Nat → Bool) (m k : Nat) : k + 1 ≤ (run q (m + 1) k).1 := by
  unfold run
  have := run_le q m (k + 1)
  split
  · omega
  · exact Nat.le_refl _
section
variable {m draft : Lm} {c : Choice} {p : List Int} {n : Nat} {seed : Int} {ahead : Nat} {N D : List Int → Nat → Int} {t1 t2 : talker}
theorem sample_eq (hs : ∀ (h : List Int) (i : Nat), i < n → h.length ≤ 1048576 → Zg m c h seed (i : Int) = some (N h i))
    (g1 : Z0x m p (n : Int) = some true) (g2 : Z0o c = some true) (g3 : Z0j seed = some true) (hp : p.length ≤ 1700) (hn : n ≤ 300) :
    Z07 m c p (n : Int) seed = some (samp N p n) := by
  have key : ∀ (t k : Nat), k + t = n → loopM (fun s : (List Int) × (List Int) × Int => Z07_L1 m c (n : Int) seed s.1 s.2.1 s.2.2) (samp N p k, p ++ samp N p k, (k : Int)) = some (samp N p n) := by
    intro t
    induction t with
    | zero =>
      intro k hk
      obtain rfl : k = n := by omega
      refine loopM_end ?_
      show Z07_L1 m c (k : Int) seed _ _ (k : Int) = _
      unfold Z07_L1
      rw [nlt_]; rfl
    | succ t ih =>
      intro k hk
      have hl : (p ++ samp N p k).length ≤ 2000 := by rw [List.length_append, samp_len]; omega
      have hl2 := samp_len N p k
      have hf : Z07_L1 m c (n : Int) seed (samp N p k) (p ++ samp N p k) (k : Int) = some (.inl (samp N p (k + 1), p ++ samp N p (k + 1), ((k + 1 : Nat) : Int))) := by
        unfold Z07_L1
        rw [if_pos (lt_ (by omega)), hs _ _ (by omega) (by omega), Option.bind_some, if_pos (by simp only [List.length_cons, List.length_nil]; omega), if_pos (by simp only [List.length_cons, List.length_nil]; omega), wi (show n ≤ 1048576 by omega) (by omega)]
        simp [samp]
      rw [loopM_next (s' := (_, _, _)) hf]
      exact ih (k + 1) (by omega)
  unfold Z07
  rw [g1, g2, g3, ints_eq _ (by omega)]
  have := key 0 0
  have k0 := key n 0 (by omega)
  rw [show samp N p 0 = [] from rfl, List.append_nil] at k0
  show (loopM (fun s : (List Int) × (List Int) × Int => Z07_L1 m c (n : Int) seed s.1 s.2.1 s.2.2) (([] : List Int), p, ((0 : Nat) : Int))).bind _ = _
  rw [k0]; rfl
def agr (N D : List Int → Nat → Int) (p : List Int) (i : Nat) : Bool := D (p ++ samp N p i) i == N (p ++ samp N p i) i
theorem gin_s (hd : ∀ (h : List Int) (i : Nat), i < n → h.length ≤ 1048576 → Zg draft c h seed (i : Int) = some (D h i)) (hp : p.length ≤ 1700) (hn : n ≤ 300) (ha : ahead ≤ 50) (a : Nat) (han : a ≤ n) :
    ∀ (t k : Nat), k + t = min ahead (n - a) → loopM (fun s : Int × (List Int) × Int × Bool => Za_L2 draft c (n : Int) seed (ahead : Int) (samp N p n) s.1 s.2.1 s.2.2.1 s.2.2.2) (((a + k : Nat) : Int), p ++ samp N p (a + k), (k : Int), true) = some (((a + (run (fun k => agr N D p (a + k)) t k).1 : Nat) : Int), (run (fun k => agr N D p (a + k)) t k).2) := by
  have hl0 := samp_len N p n
  intro t
  induction t with
  | zero =>
    intro k hk
    refine loopM_end ?_
    show Za_L2 draft c (n : Int) seed (ahead : Int) (samp N p n) _ _ _ true = _
    unfold Za_L2
    rw [if_neg]
    · rfl
    · simp only [Bool.and_eq_true, decide_eq_true_eq]
      omega
  | succ t ih =>
    intro k hk
    have hl : (p ++ samp N p (a + k)).length ≤ 2000 := by rw [List.length_append, samp_len]; omega
    have hf : Za_L2 draft c (n : Int) seed (ahead : Int) (samp N p n) ((a + k : Nat) : Int) (p ++ samp N p (a + k)) (k : Int) true = some (.inl (((a + (k + 1) : Nat) : Int), p ++ samp N p (a + (k + 1)), ((k + 1 : Nat) : Int), agr N D p (a + k))) := by
      unfold Za_L2
      rw [if_pos (by simp only [Bool.and_eq_true, decide_eq_true_eq]; exact ⟨⟨by omega, by omega⟩, trivial⟩), hd _ _ (by omega) (by omega), Option.bind_some, hl0, if_pos (inr_ (by omega)), if_pos (by simp only [List.length_cons, List.length_nil]; omega), samp_at N p (show a + k < n by omega), wi (show n ≤ 1048576 by omega) (show a + k < n by omega), wi (show ahead ≤ 1048576 by omega) (show k < ahead by omega)]
      rw [show a + (k + 1) = (a + k) + 1 from rfl]
      simp [samp, agr]
    rw [loopM_next (s' := (_, _, _, _)) hf]
    unfold run
    cases hq : agr N D p (a + k) with
    | true =>
      simp only [hq, if_true]
      exact ih (k + 1) (by omega)
    | false =>
      simp only [hq, Bool.false_eq_true, if_false]
      refine loopM_end ?_
      show Za_L2 draft c (n : Int) seed (ahead : Int) (samp N p n) _ _ _ false = _
      unfold Za_L2
      rw [Bool.and_false]; rfl
def gs (D : List Int → Nat → Int) (all : List Int) (a : Nat) : Nat → List Int
  | 0 => all
  | k + 1 => gs D all a k ++ [D (gs D all a k) (a + k)]
theorem gs_succ (D : List Int → Nat → Int) (all : List Int) (a k : Nat) : gs D all a (k + 1) = gs D all a k ++ [D (gs D all a k) (a + k)] := rfl
theorem gs_len (D : List Int → Nat → Int) (all : List Int) (a k : Nat) : (gs D all a k).length = all.length + k := by
  induction k with
  | zero => rfl
  | succ k ih => simp [gs, ih]; omega
theorem gs_take (D : List Int → Nat → Int) (all : List Int) (a : Nat) {k n : Nat} (h : k ≤ n) : (gs D all a n).take (all.length + k) = gs D all a k := by
  induction n with
  | zero =>
    obtain rfl : k = 0 := by omega
    rw [List.take_of_length_le (by rw [gs_len]; omega)]
  | succ n ih =>
    rcases Nat.eq_or_lt_of_le h with rfl | h1
    · rw [List.take_of_length_le (by rw [gs_len]; omega)]
    · rw [gs_succ D all a n, List.take_append_of_le_length (by rw [gs_len]; omega)]
      exact ih (by omega)
theorem gs_at (D : List Int → Nat → Int) (all : List Int) (a : Nat) {k n : Nat} (h : k < n) : ix (gs D all a n) ((all.length + k : Nat) : Int) = D (gs D all a k) (a + k) := by
  have h1 : all.length + k < (gs D all a n).length := by rw [gs_len]; omega
  have h2 := gs_take D all a (show k + 1 ≤ n from h)
  rw [ix_at h1]
  have h3 : ((gs D all a n).take (all.length + (k + 1)))[all.length + k]? = (gs D all a n)[all.length + k]? := by rw [List.getElem?_take, if_pos (by omega)]
  rw [h2] at h3
  rw [gs_succ] at h3
  rw [List.getElem?_append_right (by rw [gs_len]; omega), gs_len, Nat.sub_self, List.getElem?_eq_getElem h1] at h3
  simpa using h3.symm
theorem g1_eq (l : List Int) (a : Nat) (hl : l.length = p.length + a) (hb : l.length ≤ 4000) : Z0m l p = some (a : Int) := by
  unfold Z0m
  rw [w64_id (by omega) (by omega), hl]
  congr 1
  omega
theorem gin_d (hd : ∀ (h : List Int) (i : Nat), i < n → h.length ≤ 1048576 → Ze t2 h (i : Int) = some (D h i)) (hp : p.length ≤ 1700) (hn : n ≤ 300) (ha : ahead ≤ 50) (all : List Int) (a : Nat) (han : a ≤ n) (hall : all.length = p.length + a) :
    loopM (fun s : (List Int) × Int => Z5_L2 p (n : Int) (ahead : Int) t2 (a : Int) s.1 s.2) (all, (0 : Int)) = some (gs D all a (min ahead (n - a))) := by
  have hmin : (if (w64 ((n : Int) - (a : Int))) < (ahead : Int) then (w64 ((n : Int) - (a : Int))) else (ahead : Int)) = ((min ahead (n - a) : Nat) : Int) := by
    rw [w64_id (by omega) (by omega)]
    split <;> omega
  have key : ∀ (t k : Nat), k + t = min ahead (n - a) → loopM (fun s : (List Int) × Int => Z5_L2 p (n : Int) (ahead : Int) t2 (a : Int) s.1 s.2) (gs D all a k, (k : Int)) = some (gs D all a (min ahead (n - a))) := by
    intro t
    induction t with
    | zero =>
      intro k hk
      obtain rfl : k = min ahead (n - a) := by omega
      refine loopM_end ?_
      show Z5_L2 p (n : Int) (ahead : Int) t2 (a : Int) _ ((min ahead (n - a) : Nat) : Int) = _
      unfold Z5_L2
      rw [hmin, nlt_]; rfl
    | succ t ih =>
      intro k hk
      have hg := gs_len D all a k
      have hf : Z5_L2 p (n : Int) (ahead : Int) t2 (a : Int) (gs D all a k) (k : Int) = some (.inl (gs D all a (k + 1), ((k + 1 : Nat) : Int))) := by
        unfold Z5_L2
        rw [hmin, if_pos (lt_ (by omega)), w64n (x := ((gs D all a k).length : Int) - (p.length : Int)) (k := a + k) (by omega) (by unfold big; omega), hd _ _ (by omega) (by omega), Option.bind_some, if_pos (by simp only [List.length_cons, List.length_nil]; omega), wi (show min ahead (n - a) ≤ 1048576 by omega) (by omega)]
        rfl
      rw [loopM_next (s' := (_, _)) hf]
      exact ih (k + 1) (by omega)
  exact key (min ahead (n - a)) 0 (by omega)
theorem gin_i (hm : ∀ (h : List Int) (i : Nat), i < n → h.length ≤ 1048576 → Ze t1 h (i : Int) = some (N h i)) (hp : p.length ≤ 1700) (hn : n ≤ 300) (ha : ahead ≤ 50) (a : Nat) (han : a ≤ n) :
    ∀ (t k : Nat), k + t = min ahead (n - a) → p ++ samp N p (a + k) = gs D (p ++ samp N p a) a k → loopM (fun s : (List Int) × Bool => Z5_L3 p t1 (gs D (p ++ samp N p a) a (min ahead (n - a))) s.1 s.2) (p ++ samp N p (a + k), true) = some (p ++ samp N p (a + (run (fun k => agr N D p (a + k)) t k).1), (run (fun k => agr N D p (a + k)) t k).2) := by
  have hg := gs_len D (p ++ samp N p a) a (min ahead (n - a))
  rw [List.length_append, samp_len] at hg
  intro t
  induction t with
  | zero =>
    intro k hk he
    refine loopM_end ?_
    show Z5_L3 p t1 _ _ true = _
    unfold Z5_L3
    rw [if_neg]
    · rfl
    · simp only [Bool.true_and, decide_eq_true_eq, List.length_append, samp_len]
      omega
  | succ t ih =>
    intro k hk he
    have hl : (p ++ samp N p (a + k)).length = p.length + (a + k) := by rw [List.length_append, samp_len]
    have hgk := gs_at D (p ++ samp N p a) a (show k < min ahead (n - a) by omega)
    have hpl : (p ++ samp N p a).length = p.length + a := by rw [List.length_append, samp_len]
    rw [← he, hpl] at hgk
    have hf : Z5_L3 p t1 (gs D (p ++ samp N p a) a (min ahead (n - a))) (p ++ samp N p (a + k)) true = some (.inl (p ++ samp N p (a + (k + 1)), agr N D p (a + k))) := by
      unfold Z5_L3
      rw [if_pos (by simp only [Bool.true_and, decide_eq_true_eq]; omega), g1_eq _ (a + k) hl (by omega), Option.bind_some, hm _ _ (by omega) (by omega), Option.bind_some, if_pos ⟨by omega, by omega⟩, if_pos (by simp only [List.length_cons, List.length_nil]; omega)]
      rw [hl, show p.length + (a + k) = p.length + a + k by omega, hgk]
      rw [show a + (k + 1) = (a + k) + 1 from rfl]
      unfold agr
      rw [Bool.beq_comm (a := D _ _)]
      simp [samp]
    rw [loopM_next (s' := (_, _)) hf]
    unfold run
    cases hq : agr N D p (a + k) with
    | true =>
      simp only [hq, if_true]
      refine ih (k + 1) (by omega) ?_
      rw [show a + (k + 1) = (a + k) + 1 from rfl]
      rw [samp_succ, gs_succ]
      rw [← List.append_assoc, he]
      unfold agr at hq
      rw [← he, eq_of_beq hq]
    | false =>
      simp only [hq, Bool.false_eq_true, if_false]
      refine loopM_end ?_
      show Z5_L3 p t1 _ _ false = _
      unfold Z5_L3
      rw [Bool.false_and]; rfl
theorem run_all (q : Nat → Bool) (m k : Nat) (h : ∀ i, q i = true) : run q m k = (k + m, true) := by
  induction m generalizing k with
  | zero => rfl
  | succ m ih =>
    unfold run
    rw [if_pos (h k), ih]
    congr 1; omega
theorem guess_lp (hm : ∀ (h : List Int) (i : Nat), i < n → h.length ≤ 1048576 → Ze t1 h (i : Int) = some (N h i))
    (hd : ∀ (h : List Int) (i : Nat), i < n → h.length ≤ 1048576 → Zg draft c h seed (i : Int) = some (D h i) ∧ Ze t2 h (i : Int) = some (D h i))
    (hp : p.length ≤ 1700) (hn : n ≤ 300) (ha : 1 ≤ ahead ∧ ahead ≤ 50) : ∀ (t a P : Nat), n - a ≤ t → a ≤ n → P ≤ a →
      ∃ Q : Nat, loopM (fun s : Int × Int => Za_L1 draft c p (n : Int) seed (ahead : Int) (samp N p n) s.1 s.2) ((P : Int), (a : Int)) = some (Q : Int) ∧ loopM (fun s : (List Int) × Int => Z5_L1 p (n : Int) (ahead : Int) t1 t2 s.1 s.2) (p ++ samp N p a, (P : Int)) = some (p ++ samp N p n, (Q : Int)) ∧ Q ≤ n ∧ ((∀ i, agr N D p i = true) → Q = P + (n - a + ahead) / (ahead + 1)) := by
  have done : ∀ P : Nat, loopM (fun s : Int × Int => Za_L1 draft c p (n : Int) seed (ahead : Int) (samp N p n) s.1 s.2) ((P : Int), (n : Int)) = some (P : Int) ∧ loopM (fun s : (List Int) × Int => Z5_L1 p (n : Int) (ahead : Int) t1 t2 s.1 s.2) (p ++ samp N p n, (P : Int)) = some (p ++ samp N p n, (P : Int)) := by
    intro P
    refine ⟨loopM_end ?_, loopM_end ?_⟩
    · show Za_L1 draft c p (n : Int) seed (ahead : Int) (samp N p n) _ (n : Int) = _
      unfold Za_L1
      rw [nlt_]; rfl
    · show Z5_L1 p (n : Int) (ahead : Int) t1 t2 _ _ = _
      unfold Z5_L1
      rw [g1_eq _ n (by rw [List.length_append, samp_len]) (by rw [List.length_append, samp_len]; omega), Option.bind_some, nlt_]; rfl
  intro t
  induction t with
  | zero =>
    intro a P hk hal hP
    obtain rfl : a = n := by omega
    exact ⟨P, (done P).1, (done P).2, hP, fun _ => by rw [Nat.sub_self, Nat.zero_add, Nat.div_eq_of_lt (by omega)]; rfl⟩
  | succ t ih =>
    intro a P hk hal hP
    rcases Nat.eq_or_lt_of_le hal with rfl | hlt
    · exact ⟨P, (done P).1, (done P).2, hP, fun _ => by rw [Nat.sub_self, Nat.zero_add, Nat.div_eq_of_lt (by omega)]; rfl⟩
    · have hl : (p ++ samp N p a).length = p.length + a := by rw [List.length_append, samp_len]
      have hl0 := samp_len N p n
      have r1 := run_pos (fun k => agr N D p (a + k)) (min ahead (n - a) - 1) 0
      have r2 := run_le (fun k => agr N D p (a + k)) (min ahead (n - a)) 0
      rw [show min ahead (n - a) - 1 + 1 = min ahead (n - a) by omega] at r1
      have is := gin_s (N := N) (fun h i h1 h2 => (hd h i h1 h2).1) hp hn ha.2 a hal (min ahead (n - a)) 0 (by omega)
      have ii := gin_i (D := D) hm hp hn ha.2 a hal (min ahead (n - a)) 0 (by omega) rfl
      have id := gin_d (fun h i h1 h2 => (hd h i h1 h2).2) hp hn ha.2 (p ++ samp N p a) a hal hl
      have r3 : (∀ i, agr N D p i = true) → run (fun k => agr N D p (a + k)) (min ahead (n - a)) 0 = (0 + min ahead (n - a), true) := fun h => run_all _ _ _ fun i => h _
      generalize run (fun k => agr N D p (a + k)) (min ahead (n - a)) 0 = r at *
      obtain ⟨x, b⟩ := r
      simp only [Nat.add_zero] at *
      have eP : w64 ((P : Int) + 1) = ((P + 1 : Nat) : Int) := w64k (by unfold big; omega)
      have ex : w64 (((a + x : Nat) : Int) + 1) = ((a + x + 1 : Nat) : Int) := w64k (by unfold big; omega)
      have hlx : (p ++ samp N p (a + x)).length = p.length + (a + x) := by rw [List.length_append, samp_len]
      have hS : Za_L1 draft c p (n : Int) seed (ahead : Int) (samp N p n) (P : Int) (a : Int) = Za_J2 (n : Int) (P : Int) ((a + x : Nat) : Int) b := by
        unfold Za_L1
        have e2 : sub (samp N p n) 0 (a : Int) = samp N p a := by
          rw [← samp_take N p hal]; simp [sub]
        rw [if_pos (lt_ hlt), ints_eq _ (by omega), Option.bind_some, if_pos ⟨by omega, by omega, by omega⟩, e2, if_pos (by rw [samp_len]; omega)]
        rw [show loopM (fun s : Int × (List Int) × Int × Bool => Za_L2 draft c (n : Int) seed (ahead : Int) (samp N p n) s.1 s.2.1 s.2.2.1 s.2.2.2) ((a : Int), p ++ samp N p a, (0 : Int), true) = _ from is]
        rfl
      have hI : Z5_L1 p (n : Int) (ahead : Int) t1 t2 (p ++ samp N p a) (P : Int) = Z5_J4 p (n : Int) t1 (P : Int) (p ++ samp N p (a + x)) b := by
        unfold Z5_L1
        rw [g1_eq _ a hl (by omega), Option.bind_some, if_pos (lt_ hlt), cloneI_eq _ (by omega), Option.bind_some, Option.bind_some, id, Option.bind_some]
        unfold Z5_J3
        rw [ii]; rfl
      cases hb : (b && decide (((a + x : Nat) : Int) < (n : Int))) with
      | true =>
        have hb2 := hb
        simp only [Bool.and_eq_true, decide_eq_true_eq] at hb2
        obtain ⟨rfl, hb3⟩ := hb2
        have hS2 : Za_J2 (n : Int) (P : Int) ((a + x : Nat) : Int) true = some (.inl (((P + 1 : Nat) : Int), ((a + x + 1 : Nat) : Int))) := by
          unfold Za_J2
          rw [if_pos hb, eP, ex]
        have hI2 : Z5_J4 p (n : Int) t1 (P : Int) (p ++ samp N p (a + x)) true = some (.inl (p ++ samp N p (a + x + 1), ((P + 1 : Nat) : Int))) := by
          unfold Z5_J4
          rw [g1_eq _ (a + x) hlx (by omega)]
          simp only [gcall, cond_true, Option.bind_some]
          rw [if_pos hb, hm _ _ (by omega) (by omega), Option.bind_some, if_pos (by simp only [List.length_cons, List.length_nil]; omega), eP]
          simp [samp]
        rw [loopM_next (s' := (_, _)) (hS.trans hS2)]
        rw [show loopM (fun s : (List Int) × Int => Z5_L1 p (n : Int) (ahead : Int) t1 t2 s.1 s.2) (p ++ samp N p a, (P : Int)) = loopM (fun s : (List Int) × Int => Z5_L1 p (n : Int) (ahead : Int) t1 t2 s.1 s.2) (p ++ samp N p (a + x + 1), ((P + 1 : Nat) : Int)) from loopM_next (hI.trans hI2)]
        obtain ⟨Q, q1, q2, q3, q4⟩ := ih (a + x + 1) (P + 1) (by omega) (by omega) (by omega)
        refine ⟨Q, q1, q2, q3, fun h => ?_⟩
        have e := r3 h
        simp only [Prod.mk.injEq] at e
        rw [q4 h, show n - a + ahead = n - (a + x + 1) + ahead + (ahead + 1) by omega, Nat.add_div_right _ (by omega)]
        omega
      | false =>
        have hS2 : Za_J2 (n : Int) (P : Int) ((a + x : Nat) : Int) b = some (.inl (((P + 1 : Nat) : Int), ((a + x : Nat) : Int))) := by
          unfold Za_J2
          rw [if_neg (by rw [hb]; simp), eP]
        have hI2 : Z5_J4 p (n : Int) t1 (P : Int) (p ++ samp N p (a + x)) b = some (.inl (p ++ samp N p (a + x), ((P + 1 : Nat) : Int))) := by
          unfold Z5_J4
          rw [g1_eq _ (a + x) hlx (by omega)]
          cases b with
          | true =>
            simp only [gcall, cond_true, Option.bind_some]
            rw [if_neg (by rw [hb]; simp), eP]
          | false =>
            simp only [gcall, cond_false, Option.bind_some, Bool.false_and, Bool.false_eq_true, if_false]
            rw [eP]
        rw [loopM_next (s' := (_, _)) (hS.trans hS2)]
        rw [show loopM (fun s : (List Int) × Int => Z5_L1 p (n : Int) (ahead : Int) t1 t2 s.1 s.2) (p ++ samp N p a, (P : Int)) = loopM (fun s : (List Int) × Int => Z5_L1 p (n : Int) (ahead : Int) t1 t2 s.1 s.2) (p ++ samp N p (a + x), ((P + 1 : Nat) : Int)) from loopM_next (hI.trans hI2)]
        obtain ⟨Q, q1, q2, q3, q4⟩ := ih (a + x) (P + 1) (by omega) (by omega) (by omega)
        refine ⟨Q, q1, q2, q3, fun h => ?_⟩
        have e := r3 h
        simp only [Prod.mk.injEq] at e
        obtain ⟨e1, rfl⟩ := e
        have hb2 : ¬ (((a + x : Nat) : Int) < (n : Int)) := by simpa using hb
        have e3 : a + x = n := by omega
        rw [q4 h, e3, Nat.sub_self, Nat.zero_add, Nat.div_eq_of_lt (show ahead < ahead + 1 by omega), Nat.div_eq_of_lt_le (k := 1) (by omega) (by omega)]
end
end Go.Proofs.Ytkfgngcfcoplpaa
