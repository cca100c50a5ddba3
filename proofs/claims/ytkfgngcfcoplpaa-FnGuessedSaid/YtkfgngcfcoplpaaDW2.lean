import Derived.Test.YtkfgngcfcoplpaaDW1
import Derived.Test.YtkfgngcfcoplpaaGeF
import Derived.Test.YtkfgngcfcoplpaaGQ1
import Derived.Test.YtkfgngcfcoplpaaGQ9
set_option linter.unusedVariables false
set_option linter.unusedSimpArgs false
namespace Go.Proofs.Ytkfgngcfcoplpaa
open Go Go.Pg
structure Cu (c : l1Cur) : Prop where
  n : c.b.length ≤ 1048576
  i : 0 ≤ c.i
theorem byte_ok {c : l1Cur} (h : Cu c) : Oc (Z06 c) (fun r => (0 ≤ r.1 ∧ r.1 ≤ 255) ∧ Cu r.2) := by
  unfold Z06 Z06_J1
  have hn := h.n; have hi := h.i
  refine Oc.ite (fun hc => Oc.gd ⟨hi, by simpa using hc⟩ (Oc.mk ⟨and255 _, hn, ?_⟩)) (fun _ => Oc.mk ⟨and255 _, hn, hi⟩)
  have hc : c.i < (c.b.length : Int) := by simpa using hc
  show 0 ≤ w64 (c.i + 1)
  rw [w64_id (by omega) (by omega)]; omega
theorem below_ok {c : l1Cur} {n : Int} (h : Cu c) (hn : 0 < n) : Oc (Zb c n) (fun r => (0 ≤ r.1 ∧ r.1 < n) ∧ Cu r.2) := by
  unfold Zb
  rw [if_neg (by simpa using hn)]
  refine Oc.ite (fun _ => (byte_ok h).bind fun r hr => Oc.gd (by omega) (Oc.mk ⟨tmod_lt hr.1.1 hn, hr.2⟩)) (fun _ => ?_)
  refine (byte_ok h).bind fun a ha => (byte_ok ha.2).bind fun b hb => (byte_ok hb.2).bind fun d hd => (byte_ok hd.2).bind fun e he => Oc.gd (by omega) (Oc.mk ⟨tmod_lt ?_ hn, he.2⟩)
  obtain ⟨⟨a1, a2⟩, -⟩ := ha; obtain ⟨⟨b1, b2⟩, -⟩ := hb; obtain ⟨⟨d1, d2⟩, -⟩ := hd; obtain ⟨⟨e1, e2⟩, -⟩ := he
  rw [w64_id (n := a.1 * 16777216) (by omega) (by omega), w64_id (n := b.1 * 65536) (by omega) (by omega), w64_id (n := d.1 * 256) (by omega) (by omega), w64_id (n := a.1 * 16777216 + b.1 * 65536) (by omega) (by omega), w64_id (n := a.1 * 16777216 + b.1 * 65536 + d.1 * 256) (by omega) (by omega), w64_id (by omega) (by omega)]
  omega
theorem new_ok {code : List Int} (h : code.length ≤ 1048576) : Oc (Z0e code) (fun c => Cu c) := by
  unfold Z0e
  refine Oc.bind (P := fun _ => True) ?_ (fun e _ => Oc.mk ⟨h, Int.le_refl 0⟩)
  refine Oc.loop (fun k (s : Int × Int) => 0 ≤ s.2 ∧ (k : Int) = 2000000 - s.2) (k := 2000000) ?_ ⟨Int.le_refl 0, rfl⟩
  rintro k ⟨x, i⟩ ⟨h0, h1⟩
  simp only at h0 h1
  show Oc (Z0e_L1 code x i) _
  unfold Z0e_L1
  refine Oc.ite (fun hc => ?_) (fun _ => Oc.mk trivial)
  simp only [Bool.and_eq_true, decide_eq_true_eq] at hc
  refine Oc.gd ⟨h0, hc.1⟩ (Oc.mk ⟨k - 1, ?_, ?_, ?_⟩)
  · omega
  · show 0 ≤ w64 (i + 1)
    rw [w64_id (by omega) (by omega)]; omega
  · show ((k - 1 : Nat) : Int) = 2000000 - w64 (i + 1)
    rw [w64_id (by omega) (by omega)]; omega
theorem pick_ok {c : l1Cur} {l : List Int} (h : Cu c) (hl : 0 < l.length) : Oc (Z0l c l) (fun r => r.1 ∈ l ∧ Cu r.2) := by
  unfold Z0l
  refine (below_ok h (by omega)).bind fun r hr => Oc.gd hr.1 (Oc.mk ⟨?_, hr.2⟩)
  obtain ⟨k, hk⟩ := Int.eq_ofNat_of_zero_le hr.1.1
  show ix l r.1 ∈ l
  rw [hk]; exact ix_mem (by omega)
theorem once_ok {c : l1Cur} {n : Int} (h : Cu c) (hn : 0 < n) : Oc (Z0g c n) (fun r => Cu r.2) := by
  unfold Z0g
  exact (below_ok h hn).bind fun r hr => Oc.mk hr.2
theorem toks_ok {c : l1Cur} {size : Int} (h : Cu c) (hs : 0 < size) (N : Nat) (hN : N ≤ 1000000) : Oc (Z09 c size (N : Int)) (fun r => r.1.length = N ∧ Cu r.2) := by
  unfold Z09 Z09_J1
  refine Oc.bind (P := fun e : (List Int) × (List Int) × Int × Int => e.1.length = N ∧ Cu ⟨e.2.1, e.2.2.1, e.2.2.2⟩) ?_ (fun e he => Oc.mk he)
  refine Oc.loop (fun k (s : (List Int) × Int × Int × Int × (List Int)) => Cu ⟨s.1, s.2.1, s.2.2.1⟩ ∧ s.2.2.2.1 = (k : Int) ∧ s.2.2.2.2.length + k = N) (k := N) ?_ ⟨⟨h.n, h.i⟩, rfl, by simp⟩
  rintro k ⟨b, i, hh, n, x⟩ ⟨h1, h2, h3⟩
  simp only at h1 h2 h3
  subst h2
  show Oc (Z09_L1 size b i hh (k : Int) x) _
  unfold Z09_L1
  refine Oc.ite (fun hc => ?_) (fun hc => Oc.mk ⟨?_, h1⟩)
  · have hc : (0 : Int) < k := by simpa using hc
    refine (below_ok h1 hs).bind fun r hr => Oc.gd (by simp only [List.length_cons, List.length_nil]; omega) (Oc.mk ⟨k - 1, by omega, hr.2, ?_, ?_⟩)
    · show w64 ((k : Int) - 1) = _
      rw [w64_id (by omega) (by omega)]; omega
    · simp only [List.length_append, List.length_cons, List.length_nil]; omega
  · have hc : ¬ (0 : Int) < k := by simpa using hc
    simp only; omega
def RB (rows : List Row) : Prop := rows.length ≤ 8 ∧ ∀ r ∈ rows, r.Key.length ≤ 10 ∧ r.Weights.length ≤ 10
theorem RB.set {rows : List Row} (h : RB rows) (i : Nat) {x : Row} (hx : x.Key.length ≤ 10 ∧ x.Weights.length ≤ 10) : RB (rows.set i x) :=
  ⟨by rw [List.length_set]; exact h.1, fun r hr => by rcases List.mem_or_eq_of_mem_set hr with q | rfl; exact h.2 r q; exact hx⟩
theorem RB.bnd {rows : List Row} (h : RB rows) : Bnd rows := ⟨by have := h.1; omega, fun r hr => by have := h.2 r hr; omega, fun r hr => by have := h.2 r hr; omega⟩
theorem RB.unz {rows : List Row} (h : RB rows) {w : List Int} (hw : w.length ≤ 10) : RB (unz w rows) := by
  refine ⟨by unfold Proofs.Ytkfgngcfcoplpaa.unz; simpa using h.1, fun r hr => ?_⟩
  unfold Proofs.Ytkfgngcfcoplpaa.unz at hr
  obtain ⟨x, hx, rfl⟩ := List.mem_map.1 hr
  have := h.2 x hx
  refine ⟨this.1, ?_⟩
  show (if x.Weights = [-1] then w else x.Weights).length ≤ 10
  split
  · exact hw
  · exact this.2
theorem ix0 {rows : List Row} (h : 0 < rows.length) : ix rows 0 ∈ rows := ix_mem (k := 0) h
theorem dl1_ok {c : l1Cur} {size : Int} (h : Cu c) (hs : 0 < size) (N : Nat) (hN : N < 8) : Oc (loopM (fun s : (List Int) × Int × Int × (List Row) × Int => Z0_L1 size s.1 s.2.1 s.2.2.1 s.2.2.2.1 s.2.2.2.2) (c.b, c.i, c.h_, ([(⟨([] : List Int), ([] : List Int)⟩ : Row)] : List Row), (N : Int)))
    (fun e => Cu ⟨e.1, e.2.1, e.2.2.1⟩ ∧ (1 ≤ e.2.2.2.length ∧ e.2.2.2.length ≤ 8) ∧ ∀ r ∈ e.2.2.2, r.Key.length ≤ 10 ∧ r.Weights = []) := by
  refine Oc.loop (fun k (s : (List Int) × Int × Int × (List Row) × Int) => Cu ⟨s.1, s.2.1, s.2.2.1⟩ ∧ s.2.2.2.2 = (k : Int) ∧ s.2.2.2.1.length + k = N + 1 ∧ 1 ≤ s.2.2.2.1.length ∧ ∀ r ∈ s.2.2.2.1, r.Key.length ≤ 10 ∧ r.Weights = []) (k := N) ?_ ⟨⟨h.n, h.i⟩, rfl, by simp; omega, by simp, by simp⟩
  rintro k ⟨b, i, hh, m, n⟩ ⟨h1, h2, h3, h4, h5⟩
  simp only at h1 h2 h3 h4 h5
  subst h2
  show Oc (Z0_L1 size b i hh m (k : Int)) _
  unfold Z0_L1
  refine Oc.ite (fun hc => ?_) (fun hc => Oc.mk ⟨h1, by simp only; omega, h5⟩)
  have hc : (0 : Int) < k := by simpa using hc
  refine (below_ok h1 (by decide)).bind fun r hr => ?_
  have e : w64 ((1 : Int) + r.1) = ((r.1.toNat + 1 : Nat) : Int) := by have := hr.1; rw [w64_id (by omega) (by omega)]; omega
  rw [e]
  refine (toks_ok hr.2 hs (r.1.toNat + 1) (by have := hr.1; omega)).bind fun q hq => Oc.gd (by simp only [List.length_cons, List.length_nil]; omega) (Oc.mk ⟨k - 1, by omega, hq.2, ?_, ?_, ?_, ?_⟩)
  · show w64 ((k : Int) - 1) = _
    rw [w64_id (by omega) (by omega)]; omega
  · simp only [List.length_append, List.length_cons, List.length_nil]; omega
  · simp only [List.length_append, List.length_cons, List.length_nil]; omega
  · intro r' hr'
    rcases List.mem_append.1 hr' with q1 | q1
    · exact h5 _ q1
    · rw [List.mem_singleton] at q1
      subst q1
      have := hr.1
      exact ⟨by show q.1.length ≤ 10; rw [hq.1]; omega, rfl⟩
theorem dl3_ok {c : l1Cur} (S : Nat) (h : Cu c) (hS : S ≤ 10) : Oc (loopM (fun s : (List Int) × Int × Int × (List Int) × Int => Z0_L3 (S : Int) s.1 s.2.1 s.2.2.1 s.2.2.2.1 s.2.2.2.2) (c.b, c.i, c.h_, ([] : List Int), (0 : Int)))
    (fun e => Cu ⟨e.1, e.2.1, e.2.2.1⟩ ∧ e.2.2.2.length = S ∧ ∀ x ∈ e.2.2.2, (0 : Int) ≤ x) := by
  refine Oc.loop (fun k (s : (List Int) × Int × Int × (List Int) × Int) => Cu ⟨s.1, s.2.1, s.2.2.1⟩ ∧ s.2.2.2.2 = ((S - k : Nat) : Int) ∧ k ≤ S ∧ s.2.2.2.1.length + k = S ∧ ∀ x ∈ s.2.2.2.1, (0 : Int) ≤ x) (k := S) ?_ ⟨⟨h.n, h.i⟩, by simp, Nat.le_refl _, by simp, by simp⟩
  rintro k ⟨b, i, hh, x, t⟩ ⟨h1, h2, h3, h4, h5⟩
  simp only at h1 h2 h3 h4 h5
  subst h2
  show Oc (Z0_L3 (S : Int) b i hh x ((S - k : Nat) : Int)) _
  unfold Z0_L3
  refine Oc.ite (fun hc => ?_) (fun hc => Oc.mk ⟨h1, ?_, h5⟩)
  · have hc : ((S - k : Nat) : Int) < (S : Int) := by simpa using hc
    refine (below_ok h1 (by decide)).bind fun p hp => (below_ok hp.2 (by decide)).bind fun q hq => (pick_ok hq.2 (by simp)).bind fun r hr => Oc.gd (by simp only [List.length_cons, List.length_nil]; omega) (Oc.mk ⟨k - 1, by omega, hr.2, ?_, by omega, ?_, ?_⟩)
    · show w64 (((S - k : Nat) : Int) + 1) = _
      rw [w64_id (by omega) (by omega)]; omega
    · simp only [List.length_append, List.length_cons, List.length_nil]; omega
    · intro y hy
      rcases List.mem_append.1 hy with q1 | q1
      · exact h5 _ q1
      · rw [List.mem_singleton] at q1
        subst q1
        have := hp.1; have := hq.1
        have hm := hr.1
        simp only [List.mem_cons, List.not_mem_nil, or_false] at hm
        omega
  · have hc : ¬ ((S - k : Nat) : Int) < (S : Int) := by simpa using hc
    simp only; omega
def I2 (S L : Nat) (k : Nat) (s : (List Int) × Int × Int × (List Row) × (List Int) × Int) : Prop :=
  Cu ⟨s.1, s.2.1, s.2.2.1⟩ ∧ s.2.2.2.2.2 = ((L - k : Nat) : Int) ∧ k ≤ L ∧ s.2.2.2.1.length = L ∧ RB s.2.2.2.1 ∧ (k = L → ∀ x ∈ s.2.2.2.1, x.Weights ≠ [-1]) ∧ (k < L → (ix s.2.2.2.1 0).Weights = [-1] ∧ s.2.2.2.2.1.length = S)
theorem nn_of {x : List Int} (h : ∀ v ∈ x, (0 : Int) ≤ v) : x ≠ [-1] := by
  rintro rfl
  have := h (-1) (by simp)
  omega
theorem dl2_ok {c : l1Cur} (S : Nat) (m : List Row) (h : Cu c) (hS : 1 ≤ S ∧ S ≤ 10) (hm : 1 ≤ m.length ∧ m.length ≤ 8) (hr : ∀ r ∈ m, r.Key.length ≤ 10 ∧ r.Weights = []) :
    Oc (loopM (fun s : (List Int) × Int × Int × (List Row) × (List Int) × Int => Z0_L2 (S : Int) m s.1 s.2.1 s.2.2.1 s.2.2.2.1 s.2.2.2.2.1 s.2.2.2.2.2) (c.b, c.i, c.h_, m, ([] : List Int), (0 : Int)))
    (fun e => Cu ⟨e.1, e.2.1, e.2.2.1⟩ ∧ e.2.2.2.1.length = m.length ∧ RB e.2.2.2.1 ∧ (ix e.2.2.2.1 0).Weights = [-1] ∧ e.2.2.2.2.length = S) := by
  refine Oc.loop (I2 S m.length) (k := m.length) ?_ ⟨⟨h.n, h.i⟩, by simp, Nat.le_refl _, rfl, ⟨hm.2, fun r q => by have := hr r q; rw [this.2]; exact ⟨this.1, by simp⟩⟩, fun _ x hx => by rw [(hr x hx).2]; simp, fun q => by omega⟩
  rintro k ⟨b, i, hh, m2, w0, j⟩ ⟨h1, h2, h3, h4, h5, h6, h7⟩
  simp only at h1 h2 h3 h4 h5 h6 h7
  subst h2
  show Oc (Z0_L2 (S : Int) m b i hh m2 w0 ((m.length - k : Nat) : Int)) _
  unfold Z0_L2
  refine Oc.ite (fun hc => ?_) (fun hc => ?_)
  · have hc : ((m.length - k : Nat) : Int) < (m.length : Int) := by simpa using hc
    refine (dl3_ok S h1 hS.2).bind fun e he => ?_
    unfold Z0_J3
    refine (below_ok he.1 (by omega)).bind fun r hr => ?_
    have hlt : m.length - k < m2.length := by omega
    have hK : (ix m2 ((m.length - k : Nat) : Int)).Key.length ≤ 10 := (h5.2 _ (ix_mem hlt)).1
    have hW : (e.2.2.2.set r.1.toNat (3 : Int)) ≠ [-1] := nn_of fun v hv => by
      rcases List.mem_or_eq_of_mem_set hv with q | rfl
      · exact he.2.2 v q
      · decide
    have hw : w64 (((m.length - k : Nat) : Int) + 1) = ((m.length - (k - 1) : Nat) : Int) := by rw [w64_id (by omega) (by omega)]; omega
    refine Oc.gd ⟨hr.1.1, by rw [he.2.1]; exact hr.1.2⟩ (Oc.gd ⟨by omega, hc⟩ (Oc.gd (by rw [hw]; omega) ?_))
    refine Oc.ite (fun h0 => Oc.gd (h6 (by omega)) (Oc.mk ⟨k - 1, by omega, hr.2, hw, by omega, ?_, ?_, fun q => by omega, fun _ => ⟨?_, ?_⟩⟩)) (fun h0 => Oc.gd hW (Oc.mk ⟨k - 1, by omega, hr.2, hw, by omega, ?_, ?_, fun q => by omega, fun _ => ⟨?_, ?_⟩⟩))
    · show (m2.set _ _).length = _
      rw [List.length_set]; exact h4
    · exact h5.set _ ⟨hK, by simp⟩
    · show (ix (m2.set _ _) ((0 : Nat) : Int)).Weights = _
      rw [ix_at (by rw [List.length_set]; omega)]
      simp only [h0, Int.toNat_zero, List.getElem_set_self]
    · show (e.2.2.2.set _ _).length = _
      rw [List.length_set]; exact he.2.1
    · show (m2.set _ _).length = _
      rw [List.length_set]; exact h4
    · exact h5.set _ ⟨hK, by show (e.2.2.2.set _ _).length ≤ 10; rw [List.length_set, he.2.1]; exact hS.2⟩
    · show (ix (m2.set _ _) ((0 : Nat) : Int)).Weights = _
      have q := (h7 (by omega)).1
      rw [show (0 : Int) = ((0 : Nat) : Int) from rfl, ix_at (by omega)] at q
      rw [ix_at (by rw [List.length_set]; omega), List.getElem_set_ne (by omega)]
      exact q
    · exact (h7 (by omega)).2
  · have hc : ¬ ((m.length - k : Nat) : Int) < (m.length : Int) := by simpa using hc
    refine Oc.gd (by omega) (Oc.mk ⟨h1, h4, h5, (h7 (by omega)).1, (h7 (by omega)).2⟩)
theorem dl5_ok (m m2 x : List Row) (i : Nat) (hi : i < m.length) (h2 : i < m2.length) (hx : RB x) (hm2 : RB m2) : Oc (loopM (fun s : Bool × Int => Z0_L5 m m2 x (i : Int) s.1 s.2) (false, (0 : Int))) (fun e => x.length = 0 → e = false) := by
  refine Oc.loop (fun k (s : Bool × Int) => s.2 = ((x.length - k : Nat) : Int) ∧ k ≤ x.length ∧ (x.length = 0 → s.1 = false)) (k := x.length) ?_ ⟨by simp, Nat.le_refl _, fun _ => rfl⟩
  rintro k ⟨b, j⟩ ⟨h3, h4, h5⟩
  simp only at h3 h4 h5
  subst h3
  show Oc (Z0_L5 m m2 x (i : Int) b ((x.length - k : Nat) : Int)) _
  unfold Z0_L5
  refine Oc.ite (fun hc => ?_) (fun hc => Oc.mk h5)
  have hc : ((x.length - k : Nat) : Int) < (x.length : Int) := by simpa using hc
  have hlt : x.length - k < x.length := by omega
  have := hx.1
  refine Oc.gd (fun _ => ⟨by omega, hc⟩) (Oc.gd (fun _ => ⟨by omega, by omega⟩) ?_)
  refine Oc.bind (P := fun _ => True) ?_ (fun r _ => Oc.mk ⟨k - 1, by omega, ?_, by omega, fun q => by omega⟩)
  · cases b with
    | true => exact Oc.mk trivial
    | false =>
      show Oc (Zo _ _) _
      rw [same_eq _ _ (by have := (hx.2 _ (ix_mem hlt)).1; unfold big; omega)]
      exact Oc.mk trivial
  · show w64 (((x.length - k : Nat) : Int) + 1) = _
    rw [w64_id (by omega) (by omega)]; omega
theorem dl4_ok {c : l1Cur} (S : Nat) (m m2 : List Row) (h : Cu c) (hm : 1 ≤ m.length ∧ m.length ≤ 8) (h2 : m2.length = m.length) (hm2 : RB m2) (h0 : (ix m2 0).Weights = [-1]) :
    Oc (loopM (fun s : (List Int) × Int × Int × (List Row) × Int => Z0_L4 m m2 s.1 s.2.1 s.2.2.1 s.2.2.2.1 s.2.2.2.2) (c.b, c.i, c.h_, ([] : List Row), (0 : Int)))
    (fun e => Cu ⟨e.1, e.2.1, e.2.2.1⟩ ∧ RB e.2.2.2 ∧ 0 < e.2.2.2.length ∧ (ix e.2.2.2 0).Weights = [-1]) := by
  refine Oc.loop (fun k (s : (List Int) × Int × Int × (List Row) × Int) => Cu ⟨s.1, s.2.1, s.2.2.1⟩ ∧ s.2.2.2.2 = ((m.length - k : Nat) : Int) ∧ k ≤ m.length ∧ s.2.2.2.1.length + k ≤ m.length ∧ RB s.2.2.2.1 ∧ (k < m.length → 0 < s.2.2.2.1.length ∧ (ix s.2.2.2.1 0).Weights = [-1])) (k := m.length) ?_ ⟨⟨h.n, h.i⟩, by simp, Nat.le_refl _, by simp, ⟨by simp, by simp⟩, fun q => by omega⟩
  rintro k ⟨b, i, hh, x, j⟩ ⟨h1, h3, h4, h5, h6, h7⟩
  simp only at h1 h3 h4 h5 h6 h7
  subst h3
  show Oc (Z0_L4 m m2 b i hh x ((m.length - k : Nat) : Int)) _
  unfold Z0_L4
  refine Oc.ite (fun hc => ?_) (fun hc => ?_)
  · have hc : ((m.length - k : Nat) : Int) < (m.length : Int) := by simpa using hc
    have hw : w64 (((m.length - k : Nat) : Int) + 1) = ((m.length - (k - 1) : Nat) : Int) := by rw [w64_id (by omega) (by omega)]; omega
    have hlt : m.length - k < m2.length := by omega
    refine (dl5_ok m m2 x (m.length - k) (by omega) hlt h6 hm2).bind fun e he => ?_
    unfold Z0_J7 Z0_J8
    refine Oc.bind (P := fun r => Cu r.2) ?_ (fun r hr => ?_)
    · cases e with
      | true => exact once_ok h1 (by decide)
      | false => exact Oc.mk h1
    refine Oc.ite (fun hp => Oc.gd ⟨by omega, hc⟩ (Oc.gd (by simp only [List.length_cons, List.length_nil]; omega) (Oc.mk ⟨k - 1, by omega, hr, hw, by omega, ?_, ⟨?_, ?_⟩, fun _ => ⟨by simp, ?_⟩⟩))) (fun hp => Oc.mk ⟨k - 1, by omega, hr, hw, by omega, by simp only; omega, h6, fun _ => ?_⟩)
    · simp only [List.length_append, List.length_cons, List.length_nil]; omega
    · simp only [List.length_append, List.length_cons, List.length_nil]; omega
    · intro r' hr'
      rcases List.mem_append.1 hr' with q1 | q1
      · exact h6.2 _ q1
      · rw [List.mem_singleton] at q1; subst q1; exact hm2.2 _ (ix_mem hlt)
    · show (ix (x ++ [ix m2 ((m.length - k : Nat) : Int)]) ((0 : Nat) : Int)).Weights = _
      by_cases hk : k < m.length
      · obtain ⟨q1, q2⟩ := h7 hk
        rw [show (0 : Int) = ((0 : Nat) : Int) from rfl, ix_at q1] at q2
        rw [ix_at (by simp), List.getElem_append_left q1]; exact q2
      · obtain rfl : k = m.length := by omega
        have : x = [] := List.eq_nil_of_length_eq_zero (by omega)
        subst this
        rw [show m.length - m.length = 0 by omega]
        exact h0
    · refine h7 ?_
      apply Nat.lt_of_not_le
      intro hk
      have : x.length = 0 := by omega
      rw [he this] at hp
      simp at hp
  · have hc : ¬ ((m.length - k : Nat) : Int) < (m.length : Int) := by simpa using hc
    obtain ⟨q1, q2⟩ := h7 (by omega)
    exact Oc.mk ⟨h1, h6, q1, q2⟩
theorem dlm_ok {c : l1Cur} (S : Nat) (h : Cu c) (hS : 1 ≤ S ∧ S ≤ 10) : Oc (Z0 c (S : Int)) (fun r => Bnd r.1.Rows ∧ Cu r.2) := by
  unfold Z0
  refine (below_ok h (by decide)).bind fun r hr => ?_
  obtain ⟨N, hN⟩ := Int.eq_ofNat_of_zero_le hr.1.1
  rw [hN]
  refine (dl1_ok hr.2 (by omega) N (by have := hr.1; omega)).bind fun e he => ?_
  unfold Z0_J1
  refine (dl2_ok S e.2.2.2 he.1 hS he.2.1 he.2.2).bind fun f hf => ?_
  unfold Z0_J4
  refine (dl4_ok (c := ⟨f.1, f.2.1, f.2.2.1⟩) S e.2.2.2 f.2.2.2.1 hf.1 he.2.1 hf.2.1 hf.2.2.1 hf.2.2.2.1).bind fun g hg => ?_
  obtain ⟨g1, g2, g3, g4⟩ := hg
  have hw : f.2.2.2.2.length = S := hf.2.2.2.2
  generalize f.2.2.2.2 = w at hw
  unfold Z0_J9 Z0_J10
  have hB := (g2.unz (w := w) (by omega)).bnd
  refine (once_ok g1 (by decide)).bind fun o ho => Oc.ite (fun _ => ?_) (fun _ => Oc.mk ⟨hB, ho⟩)
  refine (below_ok ho (by decide)).bind fun q hq => Oc.ite (fun _ => Oc.gd ⟨by omega, by omega, by omega⟩ (Oc.mk ⟨?_, hq.2⟩)) (fun _ => Oc.ite (fun _ => ?_) (fun _ => Oc.ite (fun _ => ?_) (fun _ => Oc.ite (fun _ => Oc.mk ⟨hB, hq.2⟩) (fun _ => Oc.ite (fun _ => ?_) (fun _ => Oc.mk ⟨hB, hq.2⟩)))))
  · refine ⟨Nat.le_trans ?_ hB.n, fun r hr => hB.k r ?_, fun r hr => hB.w r ?_⟩
    · show (sub _ _ _).length ≤ _
      unfold sub
      simp only [List.length_drop, List.length_take]; omega
    · exact List.mem_of_mem_take (List.mem_of_mem_drop hr)
    · exact List.mem_of_mem_take (List.mem_of_mem_drop hr)
  · refine Oc.gd ⟨by omega, by omega, by omega⟩ (Oc.gd ⟨by omega, by omega⟩ (Oc.gd (nn_of fun v hv => ?_) ?_))
    · rw [(List.mem_replicate.1 hv).2]; exact Int.le_refl 0
    · rw [nm_bind]
      exact Oc.mk ⟨((g2.set _ (x := ⟨(ix g.2.2.2 0).Key, List.replicate (S : Int).toNat 0⟩) ⟨(g2.2 _ (ix0 g3)).1, by show (List.replicate _ _).length ≤ 10; rw [List.length_replicate]; omega⟩).unz (w := w) (by omega)).bnd, hq.2⟩
  · refine Oc.gd ⟨by omega, by omega⟩ (Oc.gd g4 (Oc.gd ⟨by omega, by omega⟩ (Oc.mk ⟨(g2.unz (w := w.set _ _) (by rw [List.length_set]; omega)).bnd, hq.2⟩)))
  · refine Oc.gd ⟨by omega, by omega⟩ ?_
    rw [nm_bind]
    exact Oc.mk ⟨((g2.set _ (x := ⟨[0, 0, 0, 0, 0], (ix g.2.2.2 0).Weights⟩) ⟨by show List.length [(0 : Int), 0, 0, 0, 0] ≤ 10; decide, (g2.2 _ (ix0 g3)).2⟩).unz (w := w) (by omega)).bnd, hq.2⟩
theorem dch_ok {c : l1Cur} (h : Cu c) : Oc (Zv c) (fun r => Cu r.2) := by
  unfold Zv
  refine (below_ok h (by decide)).bind fun p hp => (below_ok hp.2 (by decide)).bind fun q hq => (below_ok hq.2 (by decide)).bind fun r hr => (once_ok hr.2 (by decide)).bind fun o ho => ?_
  have key : ∀ x : Int, Oc (Zv_J1 p q o.2.b o.2.i o.2.h_ x) (fun r => Cu r.2) := fun x => by
    unfold Zv_J1 Zv_J2
    refine (once_ok ho (by decide)).bind fun a ha => Oc.ite (fun _ => ?_) (fun _ => Oc.mk ha)
    refine (below_ok ha (by decide)).bind fun b hb => Oc.ite (fun _ => (pick_ok hb.2 (by simp)).bind fun d hd => Oc.mk hd.2) (fun _ => Oc.ite (fun _ => (pick_ok hb.2 (by simp)).bind fun d hd => Oc.mk hd.2) (fun _ => Oc.ite (fun _ => (pick_ok hb.2 (by simp)).bind fun d hd => Oc.mk hd.2) (fun _ => Oc.mk hb.2)))
  exact Oc.ite (fun _ => key _) (fun _ => key _)
theorem dst_ok {c : l1Cur} (h : Cu c) : Oc (Z1b c) (fun r => Cu r.2) := by
  unfold Z1b
  exact (once_ok h (by decide)).bind fun o ho => Oc.ite (fun _ => (pick_ok ho (by simp)).bind fun d hd => Oc.mk hd.2) (fun _ => (below_ok ho (by decide)).bind fun d hd => Oc.mk hd.2)
theorem dguess_ok (code : List Int) (h : code.length ≤ 1048576) : Oc (Z0k code) (fun r => Bnd r.1.Rows ∧ Bnd r.2.1.Rows ∧ r.2.2.2.1.length ≤ 1048576) := by
  unfold Z0k
  refine (new_ok h).bind fun c0 h0 => (below_ok h0 (by decide)).bind fun a ha => ?_
  have e : w64 ((1 : Int) + a.1) = ((a.1.toNat + 1 : Nat) : Int) := by have := ha.1; rw [w64_id (by omega) (by omega)]; omega
  have hS : 1 ≤ a.1.toNat + 1 ∧ a.1.toNat + 1 ≤ 10 := by have := ha.1; omega
  rw [e]
  refine (dlm_ok _ ha.2 hS).bind fun m hm => (dlm_ok _ hm.2 hS).bind fun d hd => (once_ok hd.2 (by decide)).bind fun o ho => ?_
  have key : ∀ (x : Int) (rows : List Row), Bnd rows → Oc (Z0k_J1 a m o.2.b o.2.i o.2.h_ x rows) (fun r => Bnd r.1.Rows ∧ Bnd r.2.1.Rows ∧ r.2.2.2.1.length ≤ 1048576) := fun x rows hr => by
    unfold Z0k_J1
    refine (dch_ok ho).bind fun p hp => (below_ok hp (by decide)).bind fun q hq => ?_
    obtain ⟨N, hN⟩ := Int.eq_ofNat_of_zero_le hq.1.1
    rw [hN, e]
    refine (toks_ok hq.2 (by omega) N (by have := hq.1; omega)).bind fun t ht => (below_ok ht.2 (by decide)).bind fun u hu => (dst_ok hu.2).bind fun v hv => (below_ok hv (by decide)).bind fun w hw => (below_ok hw.2 (by decide)).bind fun z hz => Oc.mk ⟨hm.1, hr, ?_⟩
    show t.1.length ≤ _
    rw [ht.1]; have := hq.1; omega
  exact Oc.ite (fun _ => key _ _ hm.1) (fun _ => key _ _ hd.1)
noncomputable def Nx (m : Lm) (c : Choice) (seed : Int) : List Int → Nat → Int := fun h i => (Zg m c h seed (i : Int)).getD 0
structure Gp (m : Lm) (c : Choice) (p : List Int) (n seed : Int) : Prop where
  lm : LmP m
  pl : p.length ≤ 1700
  tk : all3 0 (w64 (m.Size - 1)) p = true
  nn : 0 ≤ n ∧ n ≤ 300
  ch : ChP c
  sd : 0 ≤ seed ∧ seed < 4294967296
structure Gq (m draft : Lm) (c : Choice) (p : List Int) (n seed ahead : Int) : Prop where
  gp : Gp m c p n seed
  dl : LmP draft
  sz : draft.Size = m.Size
  ah : 1 ≤ ahead ∧ ahead ≤ 50
theorem isample_lp {p : List Int} {n : Nat} {N : List Int → Nat → Int} {t1 : talker}
    (hm : ∀ (h : List Int) (i : Nat), i < n → h.length ≤ 1048576 → Ze t1 h (i : Int) = some (N h i)) (hp : p.length ≤ 1700) (hn : n ≤ 300) :
    loopM (fun s : (List Int) × Int => Z04_L1 (n : Int) t1 s.1 s.2) (p, (0 : Int)) = some (p ++ samp N p n) := by
  have key : ∀ (t k : Nat), k + t = n → loopM (fun s : (List Int) × Int => Z04_L1 (n : Int) t1 s.1 s.2) (p ++ samp N p k, (k : Int)) = some (p ++ samp N p n) := by
    intro t
    induction t with
    | zero =>
      intro k hk
      obtain rfl : k = n := by omega
      refine loopM_end ?_
      show Z04_L1 (k : Int) t1 _ (k : Int) = _
      unfold Z04_L1
      rw [nlt_]; rfl
    | succ t ih =>
      intro k hk
      have hl : (p ++ samp N p k).length ≤ 2000 := by rw [List.length_append, samp_len]; omega
      have hf : Z04_L1 (n : Int) t1 (p ++ samp N p k) (k : Int) = some (.inl (p ++ samp N p (k + 1), ((k + 1 : Nat) : Int))) := by
        unfold Z04_L1
        rw [if_pos (lt_ (by omega)), hm _ _ (by omega) (by omega), Option.bind_some, if_pos (by simp only [List.length_cons, List.length_nil]; omega), wi (show n ≤ 1048576 by omega) (by omega)]
        simp [samp]
      rw [loopM_next (s' := (_, _)) hf]
      exact ih (k + 1) (by omega)
  have := key n 0 (by omega)
  rw [show samp N p 0 = [] from rfl, List.append_nil] at this
  exact this
theorem isample (m : Lm) (hB : Bnd m.Rows) (c : Choice) (p : List Int) (n seed : Int) (hp : p.length ≤ 1048576) :
    ∃ r, Z04 m c p n seed = some r ∧ (Gp m c p n seed → ∃ k : Nat, n = k ∧ r = samp (Nx m c seed) p k) := by
  classical
  obtain ⟨p1, p2⟩ := prompt_eq m hB p n hp
  have ei : Z0i seed = some (decide (seed ≥ 0) && decide (seed < 4294967296)) := rfl
  unfold Z04
  rw [p2, ch_i, ch_s, ei]
  simp only [Option.bind_some]
  by_cases h1 : (decide (LmP m) && decide ((p.length : Int) ≤ 1700) && all3 0 (w64 (m.Size - 1)) p && (decide (n ≥ 0) && decide (n ≤ 300))) = true
  case neg =>
    refine ⟨[], ?_, fun g => ?_⟩
    · rw [Bool.not_eq_true] at h1
      rw [h1]; rfl
    · exact absurd (by simp only [Bool.and_eq_true, decide_eq_true_eq]; exact ⟨⟨⟨g.lm, by have := g.pl; omega⟩, g.tk⟩, g.nn⟩) h1
  by_cases h2 : ChP c
  case neg =>
    refine ⟨[], ?_, fun g => absurd g.ch h2⟩
    rw [h1, decide_eq_false h2]; rfl
  by_cases h3 : (decide (seed ≥ 0) && decide (seed < 4294967296)) = true
  case neg =>
    refine ⟨[], ?_, fun g => ?_⟩
    · rw [Bool.not_eq_true] at h3
      rw [h1, decide_eq_true h2, h3]; rfl
    · exact absurd (by simp only [Bool.and_eq_true, decide_eq_true_eq]; exact g.sd) h3
  rw [h1, decide_eq_true h2, h3]
  simp only [Bool.and_eq_true, decide_eq_true_eq] at h1 h3
  obtain ⟨⟨⟨hP, hp17⟩, -⟩, hn0, hn3⟩ := h1
  obtain ⟨k, rfl⟩ := Int.eq_ofNat_of_zero_le hn0
  have hmn := hP.n
  obtain ⟨s1, q1, q2⟩ := tk_ok m hB (by omega) c (seed := seed) ⟨h3.1, h3.2⟩ k (by omega)
  have hM : ∀ (h : List Int) (i : Nat), i < k → h.length ≤ 1048576 → Ze ⟨s1, c, stts seed k⟩ h (i : Int) = some (Nx m c seed h i) := fun h i hi hl => by
    obtain ⟨t, t1, t2⟩ := say_ok m hB hP s1 q2 c h2 (seed := seed) ⟨h3.1, h3.2⟩ k i hi (by omega) h hl
    unfold Nx
    rw [t1, t2]; rfl
  have hL := isample_lp (p := p) (n := k) hM (by omega) (by omega)
  have hsl := samp_len (Nx m c seed) p k
  refine ⟨samp (Nx m c seed) p k, ?_, fun _ => ⟨k, rfl, rfl⟩⟩
  simp only [gcall, Bool.not_true, Bool.not_false, cond_true, cond_false, Option.bind_some, Bool.or_false, Bool.false_or, Bool.false_eq_true, if_false]
  rw [q1, Option.bind_some, cloneI_eq _ hp, Option.bind_some, hL, Option.bind_some]
  generalize samp (Nx m c seed) p k = R at *
  unfold Z04_J1
  have e7 : sub (p ++ R) (p.length : Int) ((p ++ R).length : Int) = R := by
    unfold sub
    rw [Int.toNat_natCast, Int.toNat_natCast, List.take_length, List.drop_left]
  rw [if_pos ⟨by omega, by rw [List.length_append]; omega, by omega⟩, e7, cloneI_eq _ (by omega)]; rfl
theorem guess2 (m draft : Lm) (hB : Bnd m.Rows) (hD : Bnd draft.Rows) (c : Choice) (p : List Int) (n seed ahead : Int) (hp : p.length ≤ 1048576) : ∃ r : (List Int) × Int, Za m draft c p n seed ahead = some r ∧ Z5 m draft c p n seed ahead = some r ∧ (¬ Gq m draft c p n seed ahead → r = ([], 0)) ∧
    (Gq m draft c p n seed ahead → ∃ k ah Q : Nat, n = k ∧ ahead = ah ∧ r = (samp (Nx m c seed) p k, (Q : Int)) ∧ Q ≤ k ∧ (draft = m → Q = (k + ah) / (ah + 1))) := by
  classical
  obtain ⟨p1, p2⟩ := prompt_eq m hB p n hp
  have es : Z0j seed = some (decide (seed ≥ 0) && decide (seed < 4294967296)) := rfl
  have ei : Z0i seed = some (decide (seed ≥ 0) && decide (seed < 4294967296)) := rfl
  have e5 : Zf ahead 1 50 = some (decide (ahead ≥ 1) && decide (ahead ≤ 50)) := rfl
  have e6 : Zx ahead 1 50 = some (decide (ahead ≥ 1) && decide (ahead ≤ 50)) := rfl
  unfold Za Z5
  rw [p1, p2, ch_i, ch_s, es, ei, specOk draft hD, implOk draft hD, e5, e6]
  simp only [Option.bind_some]
  by_cases h1 : (decide (LmP m) && decide ((p.length : Int) ≤ 1700) && all3 0 (w64 (m.Size - 1)) p && (decide (n ≥ 0) && decide (n ≤ 300))) = true
  case neg =>
    refine ⟨([], 0), ?_, ?_, fun _ => rfl, fun g => ?_⟩
    · rw [Bool.not_eq_true] at h1
      rw [h1]; rfl
    · rw [Bool.not_eq_true] at h1
      rw [h1]; rfl
    · exact absurd (by simp only [Bool.and_eq_true, decide_eq_true_eq]; exact ⟨⟨⟨g.gp.lm, by have := g.gp.pl; omega⟩, g.gp.tk⟩, g.gp.nn⟩) h1
  by_cases h2 : ChP c
  case neg =>
    rw [h1, decide_eq_false h2]
    exact ⟨([], 0), rfl, rfl, fun _ => rfl, fun g => absurd g.gp.ch h2⟩
  by_cases h3 : (decide (seed ≥ 0) && decide (seed < 4294967296)) = true
  case neg =>
    refine ⟨([], 0), ?_, ?_, fun _ => rfl, fun g => ?_⟩
    · rw [Bool.not_eq_true] at h3
      rw [h1, decide_eq_true h2, h3]; rfl
    · rw [Bool.not_eq_true] at h3
      rw [h1, decide_eq_true h2, h3]; rfl
    · exact absurd (by simp only [Bool.and_eq_true, decide_eq_true_eq]; exact g.gp.sd) h3
  by_cases h4 : LmP draft
  case neg =>
    rw [h1, decide_eq_true h2, h3, decide_eq_false h4]
    exact ⟨([], 0), rfl, rfl, fun _ => rfl, fun g => absurd g.dl h4⟩
  rw [h1, decide_eq_true h2, h3, decide_eq_true h4]
  cases h5 : (draft.Size != m.Size) with
  | true => exact ⟨([], 0), rfl, rfl, fun _ => rfl, fun g => absurd h5 (by rw [g.sz]; simp)⟩
  | false =>
    cases h6 : (decide (ahead ≥ 1) && decide (ahead ≤ 50)) with
    | false => exact ⟨([], 0), rfl, rfl, fun _ => rfl, fun g => absurd h6 (by have := g.ah; simp; omega)⟩
    | true =>
      have h1' := h1
      simp only [Bool.and_eq_true, decide_eq_true_eq] at h1' h3 h6
      obtain ⟨⟨⟨hP, hp17⟩, ht⟩, hn0, hn3⟩ := h1'
      obtain ⟨k, rfl⟩ := Int.eq_ofNat_of_zero_le hn0
      obtain ⟨ah, rfl⟩ := Int.eq_ofNat_of_zero_le (show 0 ≤ ahead by omega)
      have hmn := hP.n
      have hdn := h4.n
      obtain ⟨s1, q1, q2⟩ := tk_ok m hB (by omega) c (seed := seed) ⟨h3.1, h3.2⟩ k (by omega)
      obtain ⟨s2, q3, q4⟩ := tk_ok draft hD (by omega) c (seed := seed) ⟨h3.1, h3.2⟩ k (by omega)
      have hM : ∀ (h : List Int) (i : Nat), i < k → h.length ≤ 1048576 → Zg m c h seed (i : Int) = some (Nx m c seed h i) ∧ Ze ⟨s1, c, stts seed k⟩ h (i : Int) = some (Nx m c seed h i) := fun h i hi hl => by
        obtain ⟨t, t1, t2⟩ := say_ok m hB hP s1 q2 c h2 (seed := seed) ⟨h3.1, h3.2⟩ k i hi (by omega) h hl
        unfold Nx
        rw [t1, t2]; exact ⟨rfl, rfl⟩
      have hDr : ∀ (h : List Int) (i : Nat), i < k → h.length ≤ 1048576 → Zg draft c h seed (i : Int) = some (Nx draft c seed h i) ∧ Ze ⟨s2, c, stts seed k⟩ h (i : Int) = some (Nx draft c seed h i) := fun h i hi hl => by
        obtain ⟨t, t1, t2⟩ := say_ok draft hD h4 s2 q4 c h2 (seed := seed) ⟨h3.1, h3.2⟩ k i hi (by omega) h hl
        unfold Nx
        rw [t1, t2]; exact ⟨rfl, rfl⟩
      have hSm := sample_eq (m := m) (c := c) (p := p) (n := k) (seed := seed) (N := Nx m c seed) (fun h i h1 h2 => (hM h i h1 h2).1) (by rw [p1, h1]) (by rw [ch_s, decide_eq_true h2]) (by rw [es]; simp [h3]) (by omega) (by omega)
      obtain ⟨Q, g1, g2, g3, g4⟩ := guess_lp (draft := draft) (c := c) (p := p) (n := k) (seed := seed) (ahead := ah) (N := Nx m c seed) (D := Nx draft c seed) (t1 := ⟨s1, c, stts seed k⟩) (t2 := ⟨s2, c, stts seed k⟩) (fun h i h1 h2 => (hM h i h1 h2).2) hDr (by omega) (by omega) ⟨by omega, by omega⟩ k 0 0 (by omega) (by omega) (by omega)
      have hsl := samp_len (Nx m c seed) p k
      have g5 : draft = m → Q = (k + ah) / (ah + 1) := fun e => by
        subst e
        rw [g4 (fun i => by unfold agr; exact beq_self_eq_true _), Nat.zero_add, Nat.sub_zero]
      refine ⟨(samp (Nx m c seed) p k, (Q : Int)), ?_, ?_, fun g => ?_, fun _ => ⟨k, ah, Q, rfl, rfl, rfl, g3, g5⟩⟩
      · generalize samp (Nx m c seed) p k = R at *
        simp only [gcall, Bool.not_true, Bool.not_false, cond_true, cond_false, Option.bind_some, Bool.or_false, Bool.false_or, Bool.false_eq_true, if_false]
        rw [hSm, Option.bind_some, show ((0 : Int), (0 : Int)) = (((0 : Nat) : Int), ((0 : Nat) : Int)) from rfl, g1]; rfl
      · rw [show p ++ samp (Nx m c seed) p 0 = p from List.append_nil p] at g2
        generalize samp (Nx m c seed) p k = R at *
        simp only [gcall, Bool.not_true, Bool.not_false, cond_true, cond_false, Option.bind_some, Bool.or_false, Bool.false_or, Bool.false_eq_true, if_false]
        rw [q1, Option.bind_some, q3, Option.bind_some, cloneI_eq _ hp, Option.bind_some, show (p, (0 : Int)) = (p, ((0 : Nat) : Int)) from rfl, g2, Option.bind_some]
        unfold Z5_J5
        have e7 : sub (p ++ R) (p.length : Int) ((p ++ R).length : Int) = R := by
          unfold sub
          rw [Int.toNat_natCast, Int.toNat_natCast, List.take_length, List.drop_left]
        rw [if_pos ⟨by omega, by rw [List.length_append]; omega, by omega⟩, e7, cloneI_eq _ (by omega)]; rfl
      · exact absurd ⟨⟨hP, by omega, ht, ⟨by omega, by omega⟩, h2, h3⟩, h4, by simpa using h5, by omega⟩ g
theorem one_ok : Gq ⟨1, [⟨[], [1]⟩]⟩ ⟨1, [⟨[], [1]⟩]⟩ ⟨1, 0, 1⟩ [] 4 0 3 := by
  have h : LmP ⟨1, [⟨[], [1]⟩]⟩ := ⟨by decide, by decide, by decide, by simp, ⟨⟨[], [1]⟩, by simp, rfl⟩⟩
  exact ⟨⟨h, by decide, by decide, by decide, ⟨by decide, by decide, by decide⟩, by decide⟩, h, rfl, by decide⟩
theorem sameR (xs : List Int) (h : xs.length < big) : Z0f xs xs = some true := by
  rw [show Z0f xs xs = Zo xs xs from rfl, same_eq _ _ h, decide_eq_true rfl]
theorem law_guessed (code : List Int) : Z1i code = some true := by
  unfold Z1i Z1g
  rw [bind_some']
  by_cases h0 : (code.length : Int) > 1048576
  · rw [if_pos (by simpa using h0)]
  rw [if_neg (by simpa using h0)]
  obtain ⟨⟨m, d, c, p, n, seed, ahead⟩, e0, hm, hd, hp⟩ := dguess_ok code (by omega)
  simp only at hm hd hp
  rw [e0, bind_some']
  have hB1 : Bnd [(⟨[], [1]⟩ : Row)] := ⟨by simp, by simp, by simp⟩
  obtain ⟨r1, -, i1, -, i2⟩ := guess2 ⟨1, [⟨[], [1]⟩]⟩ ⟨1, [⟨[], [1]⟩]⟩ hB1 hB1 ⟨1, 0, 1⟩ [] 4 0 3 (by simp)
  obtain ⟨k1, ah1, Q1, f1, f2, rfl, -, f4⟩ := i2 one_ok
  obtain rfl : k1 = 4 := by omega
  obtain rfl : ah1 = 3 := by omega
  have f5 := f4 rfl
  subst f5
  rw [i1, bind_some']
  simp only [samp_len]
  rw [if_neg (by decide)]
  obtain ⟨r2, s1, s2⟩ := isample m hm c p n seed hp
  obtain ⟨r3, t1, t2, t3, t4⟩ := guess2 m d hm hd c p n seed ahead hp
  rw [s1, bind_some', t2, bind_some', t1, bind_some', if_neg (by simp)]
  by_cases hG : Gq m d c p n seed ahead
  case neg =>
    rw [t3 hG]; rfl
  obtain ⟨k, ah, Q, rfl, rfl, rfl, g1, -⟩ := t4 hG
  simp only [samp_len]
  by_cases hk : k = 0
  · subst hk
    obtain rfl : Q = 0 := by omega
    rfl
  rw [if_neg (by simp; omega)]
  obtain ⟨r4, -, u2, -, u4⟩ := guess2 m m hm hm c p k seed ah hp
  obtain ⟨k', ah', Q', q1, q2, rfl, -, q4⟩ := u4 ⟨hG.gp, hG.gp.lm, rfl, hG.ah⟩
  obtain rfl : k = k' := by omega
  obtain rfl : ah = ah' := by omega
  have q5 := q4 rfl
  obtain ⟨k'', q6, rfl⟩ := s2 hG.gp
  obtain rfl : k = k'' := by omega
  have hn := hG.gp.nn; have ha := hG.ah
  have hL := samp_len (Nx m c seed) p k
  rw [u2, bind_some']
  simp only []
  rw [sameR _ (by rw [hL]; unfold big; omega), bind_some']
  show (gcall true (some true)).bind _ = _
  rw [show gcall true (some true) = some true from rfl, bind_some', show w64 ((ah : Int) + 1) = ((ah + 1 : Nat) : Int) by rw [w64_id (by omega) (by omega)]; omega, show w64 ((k : Int) + (ah : Int)) = ((k + ah : Nat) : Int) by rw [w64_id (by omega) (by omega)]; omega]
  rw [if_pos (fun _ => by omega), q5]
  have e1 : (((k + ah : Nat) : Int).tdiv ((ah + 1 : Nat) : Int)) = (((k + ah) / (ah + 1) : Nat) : Int) := rfl
  have e2 : (k + ah) / (ah + 1) ≤ k + ah := Nat.div_le_self _ _
  rw [e1, w64_id (by omega) (by omega), decide_eq_true (show (Q : Int) ≤ (k : Int) by omega)]
  simp
end Go.Proofs.Ytkfgngcfcoplpaa
