import Derived.Test.YtkfgngcfcoplpaaGreatMpP
import Derived.Test.YtkfgngcfcoplpaaGreatSrt0
set_option linter.unusedVariables false
set_option linter.unusedSimpArgs false
namespace Go.Proofs.YtkfgngcfcoplpaaGreat
open Go Go.Pg
def cutH (f t : Int) (h : hole) : List hole :=
  if ((decide (t ≤ h.from_)) || (decide (h.to ≤ f))) = true then [h] else (if h.from_ < f then [⟨h.from_, f⟩] else []) ++ (if t < h.to then [⟨t, h.to⟩] else [])
theorem cutH_len (f t : Int) (h : hole) : (cutH f t h).length ≤ 2 := by
  unfold cutH
  split
  · simp
  · split <;> split <;> simp
theorem ixm {α : Type} [Inhabited α] (A B : List α) (x : α) : ix (A ++ x :: B) (A.length : Int) = x := by
  unfold ix; simp [List.getD_eq_getElem?_getD]
theorem take_loop (f t : Int) (N : Nat) (hN : N ≤ 4000000) : ∀ (H D : List hole), D.length + 2 * H.length ≤ N → loopM (fun s : (List hole) × Int => Z6_L1 f t s.1 s.2) (D ++ H, (D.length : Int)) = some (D ++ H.flatMap (cutH f t)) := by
  intro H
  induction H with
  | nil =>
    intro D h
    refine loopM_end ?_
    show Z6_L1 _ _ _ _ = _
    unfold Z6_L1
    rw [if_neg (by simp)]
    simp
  | cons h H ih =>
    intro D hl
    rw [List.length_cons] at hl
    have e1 : w64 ((D.length : Int) + 1) = ((D.length + 1 : Nat) : Int) := by rw [w64_id (by omega) (by omega)]; omega
    have hc := cutH_len f t h
    rw [loopM_next (s' := (D ++ cutH f t h ++ H, ((D ++ cutH f t h).length : Int)))]
    · have := ih (D ++ cutH f t h) (by rw [List.length_append]; omega)
      rw [this, List.flatMap_cons]; simp
    · show Z6_L1 _ _ _ _ = _
      unfold Z6_L1
      rw [if_pos (by simp; omega), if_pos ⟨by omega, by simp; omega⟩, ixm]
      unfold cutH
      by_cases hq : ((decide (t ≤ h.from_)) || (decide (h.to ≤ f))) = true
      · rw [if_pos hq, if_pos hq]
        unfold Z6_J6
        rw [e1]; simp
      rw [if_neg hq, if_neg hq]
      have hd : Z1m (D ++ h :: H) (D.length : Int) (w64 ((D.length : Int) + 1)) = some (D ++ H) := by
        unfold Z1m
        rw [e1, if_pos ⟨by omega, by omega, by simp; omega⟩]
        simp only [Int.toNat_natCast]
        rw [List.take_left, show D ++ h :: H = (D ++ [h]) ++ H by simp, show D.length + 1 = (D ++ [h]).length by simp, List.drop_left]
      have hi : ∀ (A : List hole) (p : hole), A.length + H.length ≤ 8000000 → Z19 (A ++ H) (A.length : Int) [p] = some (A ++ [p] ++ H) := fun A p hA => by
        unfold Z19
        rw [if_pos ⟨by omega, by simp; omega, by simp; omega⟩]
        simp only [Int.toNat_natCast]
        rw [List.take_left, List.drop_left]
      have tail : ∀ (A : List hole), A.length ≤ D.length + 1 → Z6_J4 t (D ++ h :: H) (D.length : Int) (A ++ H) (A.length : Int) = some (.inl (A ++ (if t < h.to then [⟨t, h.to⟩] else []) ++ H, ((A ++ (if t < h.to then [(⟨t, h.to⟩ : hole)] else [])).length : Int))) := fun A hA => by
        unfold Z6_J4
        rw [ixm]
        have j : ∀ (B : List hole) (k : Nat), k ≤ 8000000 → Z6_J5 B (k : Int) = some (.inl (B, (k : Int))) := fun B k hk => by
          unfold Z6_J5 Z6_J6
          have : w64 (w64 ((k : Int) - 1) + 1) = (k : Int) := by rw [w64_id (n := (k : Int) - 1) (by omega) (by omega), w64_id (by omega) (by omega)]; omega
          rw [this]
        have e2 : w64 ((A.length : Int) + 1) = ((A.length + 1 : Nat) : Int) := by rw [w64_id (by omega) (by omega)]; omega
        by_cases ht : t < h.to
        · rw [if_pos (decide_eq_true ht), hi A _ (by omega), Option.bind_some, e2, j _ _ (by omega), if_pos ht]
          simp
        · rw [if_neg (by simpa using ht), j _ _ (by omega), if_neg ht]
          simp
      rw [hd, Option.bind_some]
      by_cases hf : h.from_ < f
      · rw [if_pos (decide_eq_true hf), hi D _ (by omega), Option.bind_some, e1, if_pos hf]
        have := tail (D ++ [⟨h.from_, f⟩]) (by simp)
        rw [show ((D ++ [(⟨h.from_, f⟩ : hole)]).length : Int) = ((D.length + 1 : Nat) : Int) by simp] at this
        rw [this]
        simp
      · rw [if_neg (by simpa using hf), if_neg hf, tail D (by omega)]
        simp
theorem take_ok (f t : Int) (H : List hole) (h : H.length ≤ 1000000) : Z6 H f t = some (H.flatMap (cutH f t)) := by
  unfold Z6
  have := take_loop f t 4000000 (by omega) H [] (by simp; omega)
  simp only [List.nil_append] at this
  rw [show ((([] : List hole).length : Nat) : Int) = (0 : Int) from rfl] at this
  rw [this]
  rfl
def Good (M : Int) (H : List hole) : Prop := H.Pairwise (fun a b => a.to ≤ b.from_) ∧ ∀ h ∈ H, 0 ≤ h.from_ ∧ h.from_ < h.to ∧ h.to ≤ M
theorem good_len {M : Int} : ∀ (H : List hole) (a : Int), a ≤ M → H.Pairwise (fun a b => a.to ≤ b.from_) → (∀ h ∈ H, a ≤ h.from_ ∧ h.from_ < h.to ∧ h.to ≤ M) → (H.length : Int) ≤ M - a := by
  intro H
  induction H with
  | nil => intro a h _ _; simp; omega
  | cons h H ih =>
    intro a ha h1 h2
    have hp := List.pairwise_cons.1 h1
    have hh := h2 h (by simp)
    have := ih h.to hh.2.2 hp.2 (fun x hx => ⟨hp.1 x hx, (h2 x (by simp [hx])).2⟩)
    rw [List.length_cons]
    omega
theorem cutH_mem {f t : Int} {h x : hole} (hx : x ∈ cutH f t h) (hh : h.from_ < h.to) : h.from_ ≤ x.from_ ∧ x.from_ < x.to ∧ x.to ≤ h.to := by
  unfold cutH at hx
  split at hx
  · rw [List.mem_singleton.1 hx]; omega
  · rename_i hq
    simp only [Bool.or_eq_true, decide_eq_true_eq, not_or] at hq
    rcases List.mem_append.1 hx with hx | hx
    · split at hx
      · rw [List.mem_singleton.1 hx]; simp only; omega
      · cases hx
    · split at hx
      · rw [List.mem_singleton.1 hx]; simp only; omega
      · cases hx
theorem Good.cut {M : Int} {H : List hole} (hg : Good M H) (f t : Int) (hft : f < t) : Good M (H.flatMap (cutH f t)) := by
  obtain ⟨h1, h2⟩ := hg
  refine ⟨?_, ?_⟩
  · induction H with
    | nil => exact List.Pairwise.nil
    | cons h H ih =>
      have hp := List.pairwise_cons.1 h1
      rw [List.flatMap_cons]
      refine List.pairwise_append.2 ⟨?_, ih hp.2 (fun x hx => h2 x (by simp [hx])), ?_⟩
      · unfold cutH
        split
        · simp
        · split <;> split <;> simp
          omega
      · intro x hx y hy
        obtain ⟨z, hz, hy⟩ := List.mem_flatMap.1 hy
        have a := cutH_mem hx (h2 h (by simp)).2.1
        have b := cutH_mem hy (h2 z (by simp [hz])).2.1
        have := hp.1 z hz
        omega
  · intro x hx
    obtain ⟨z, hz, hx⟩ := List.mem_flatMap.1 hx
    have a := cutH_mem hx (h2 z hz).2.1
    have := h2 z hz
    omega
def fits (H : List hole) (y s : Int) : Prop := ∃ h ∈ H, h.from_ ≤ y ∧ y + s ≤ h.to
theorem fits_cut {H : List hole} {f t y s : Int} (hft : f < t) (hs : 0 < s) : fits (H.flatMap (cutH f t)) y s ↔ fits H y s ∧ (y + s ≤ f ∨ t ≤ y) := by
  unfold fits
  constructor
  · rintro ⟨x, hx, a, b⟩
    obtain ⟨h, hh, hx⟩ := List.mem_flatMap.1 hx
    unfold cutH at hx
    split at hx
    · rename_i hq
      simp only [Bool.or_eq_true, decide_eq_true_eq] at hq
      rw [List.mem_singleton] at hx; subst hx
      exact ⟨⟨x, hh, a, b⟩, by omega⟩
    · rename_i hq
      simp only [Bool.or_eq_true, decide_eq_true_eq, not_or] at hq
      rcases List.mem_append.1 hx with hx | hx
      · split at hx
        · rw [List.mem_singleton] at hx; subst hx
          simp only at a b
          exact ⟨⟨h, hh, by omega, by omega⟩, by omega⟩
        · cases hx
      · split at hx
        · rw [List.mem_singleton] at hx; subst hx
          simp only at a b
          exact ⟨⟨h, hh, by omega, by omega⟩, by omega⟩
        · cases hx
  · rintro ⟨⟨h, hh, a, b⟩, c⟩
    by_cases hq : ((decide (t ≤ h.from_)) || (decide (h.to ≤ f))) = true
    · exact ⟨h, List.mem_flatMap.2 ⟨h, hh, by unfold cutH; rw [if_pos hq]; simp⟩, a, b⟩
    · rcases c with c | c
      · refine ⟨⟨h.from_, f⟩, List.mem_flatMap.2 ⟨h, hh, ?_⟩, a, c⟩
        unfold cutH
        rw [if_neg hq, if_pos (show h.from_ < f by omega)]
        simp
      · refine ⟨⟨t, h.to⟩, List.mem_flatMap.2 ⟨h, hh, ?_⟩, c, b⟩
        unfold cutH
        rw [if_neg hq, if_pos (show t < h.to by omega)]
        simp
theorem first_fit (ls : List Life) (i : Nat) (hi : i < ls.length) {M : Int} (hM : M ≤ 1000000) (s : Int) (hs : s = (ix ls (i : Int)).Size) (hs0 : 0 < s) : ∀ (H : List hole) (D : List hole), Good M (D ++ H) → (∀ h ∈ D, h.to - h.from_ < s) → (∃ h ∈ H, s ≤ h.to - h.from_) → (D ++ H).length ≤ 1000000 →
    ∃ k : Nat, ∃ h : k < (D ++ H).length, (loopM (fun x : Int => Z0k_L1 (D ++ H) ls (i : Int) x) (D.length : Int)) = some (.inl (k : Int)) ∧ s ≤ ((D ++ H)[k]).to - ((D ++ H)[k]).from_ ∧ ∀ j (hj : j < k), ((D ++ H)[j]'(by omega)).to - ((D ++ H)[j]'(by omega)).from_ < s := by
  intro H
  induction H with
  | nil => rintro D _ _ ⟨h, hh, _⟩; cases hh
  | cons h H ih =>
    intro D hg hD hE hl
    have hr := hg.2 h (by simp)
    have hstep : Z0k_L1 (D ++ h :: H) ls (i : Int) (D.length : Int) = if s ≤ h.to - h.from_ then some (.inr (.inl (D.length : Int))) else some (.inl ((D.length + 1 : Nat) : Int)) := by
      unfold Z0k_L1 Z28
      have e1 : w64 ((D.length : Int) + 1) = ((D.length + 1 : Nat) : Int) := by rw [w64_id (by simp at hl; omega) (by simp at hl; omega)]; omega
      rw [if_pos (by simp; omega), if_pos ⟨by omega, by simp; omega⟩, if_pos ⟨by omega, by omega⟩, Option.bind_some, ixm, ← hs, w64_id (n := h.to - h.from_) (by omega) (by omega), e1]
      by_cases hq : s ≤ h.to - h.from_
      · rw [if_pos (decide_eq_true hq), if_pos hq]
      · rw [if_neg (by simpa using hq), if_neg hq]
    by_cases hq : s ≤ h.to - h.from_
    · refine ⟨D.length, by simp, loopM_end (by show _ = _; rw [hstep, if_pos hq]), by simpa using hq, ?_⟩
      intro j hj
      rw [List.getElem_append_left hj]
      exact hD _ (List.getElem_mem _)
    · have := ih (D ++ [h]) (by simpa using hg) (by
        intro x hx
        rcases List.mem_append.1 hx with hx | hx
        · exact hD x hx
        · rw [List.mem_singleton.1 hx]; omega) (by
        obtain ⟨x, hx, hx2⟩ := hE
        rcases List.mem_cons.1 hx with rfl | hx
        · exact absurd hx2 hq
        · exact ⟨x, hx, hx2⟩) (by simpa using hl)
      simp only [List.append_assoc, List.singleton_append, List.length_append, List.length_singleton] at this
      rw [loopM_next (by show Z0k_L1 _ _ _ _ = _; rw [hstep, if_neg hq])]
      simpa using this
theorem index_ok (ls : List Life) (i : Nat) (hi : i < ls.length) {M : Int} (hM : M ≤ 1000000) (hM0 : 0 ≤ M) (H : List hole) (hg : Good M H) (s : Int) (hs : s = (ix ls (i : Int)).Size) (hs0 : 0 < s) (hE : ∃ y, fits H y s) :
    ∃ k : Nat, ∃ h : k < H.length, Z0k H ls (i : Int) = some (k : Int) ∧ fits H (H[k]).from_ s ∧ ∀ y, fits H y s → (H[k]).from_ ≤ y := by
  have hl := good_len H 0 hM0 hg.1 hg.2
  obtain ⟨y0, h0, hh0, a0, b0⟩ := hE
  obtain ⟨k, hk, h1, h2, h3⟩ := first_fit ls i hi hM s hs hs0 H [] (by simpa using hg) (by simp) ⟨h0, hh0, by omega⟩ (by simp; omega)
  simp only [List.nil_append] at hk h1 h2 h3
  refine ⟨k, hk, ?_, ⟨H[k], List.getElem_mem _, by omega, by omega⟩, ?_⟩
  · unfold Z0k
    rw [show ((([] : List hole).length : Nat) : Int) = (0 : Int) from rfl] at h1
    rw [h1]
    rfl
  · rintro y ⟨h, hh, a, b⟩
    obtain ⟨j, hj, rfl⟩ := List.getElem_of_mem hh
    rcases Nat.lt_trichotomy j k with hjk | hjk | hjk
    · have := h3 j hjk; omega
    · subst hjk; exact a
    · have := List.pairwise_iff_getElem.1 hg.1 k j hk hj hjk
      have := hg.2 H[k] (List.getElem_mem _)
      omega
noncomputable abbrev C1 (q : List Life) : Int → Int → Option Int := fun x y => Z0z x y q
theorem symR_eq (q : List Life) (n : Nat) : ∀ (d : List Int) (a m b : Int), Z0_R n d a m b q = gSym_R (C1 q) n d a m b := by
  induction n with
  | zero => intros; rfl
  | succ n ih =>
    intro d a m b
    show Z0_S (Z0_R n) d a m b q = gSym_S (gSym_R (C1 q) n) d a m b (C1 q)
    have : (fun d a m b => Z0_R n d a m b q) = gSym_R (C1 q) n := by
      funext d a m b; exact ih d a m b
    rw [← this]
    rfl
theorem srt_eq (p : List Int) (q : List Life) : Z1w p q = gSrt p (C1 q) := by
  have hs : ∀ d a m b, Z0 d a m b q = gSym d a m b (C1 q) := fun d a m b => symR_eq q recFuel d a m b
  have h3 : ∀ n bs d a b, Za_L3 n q bs d a b = gStb_L3 n (C1 q) bs d a b := fun n bs d a b => by
    unfold Za_L3 gStb_L3; rw [hs]
  have h4 : ∀ n bs d a, Za_J4 n q bs d a = gStb_J4 n (C1 q) bs d a := fun n bs d a => by
    unfold Za_J4 gStb_J4; rw [hs]; rfl
  have h2 : ∀ n d bs, Za_L2 n q d bs = gStb_L2 n (C1 q) d bs := fun n d bs => by
    unfold Za_L2 gStb_L2; simp only [h3, h4]
  unfold Z1w gSrt Za gStb
  unfold Za_J1 gStb_J1
  simp only [h2]
  rfl
def bef (ls : List Life) (i j : Int) : Bool := decide ((ix ls i).Size > (ix ls j).Size) || ((ix ls i).Size == (ix ls j).Size && decide ((ix ls i).From < (ix ls j).From))
def TT (ls : List Life) (i j : Int) : Prop := bef ls i j = true ∨ (bef ls j i = false ∧ i < j)
theorem TT_iff (ls : List Life) (i j : Int) : TT ls i j ↔ (ix ls i).Size > (ix ls j).Size ∨ ((ix ls i).Size = (ix ls j).Size ∧ ((ix ls i).From < (ix ls j).From ∨ ((ix ls i).From = (ix ls j).From ∧ i < j))) := by
  unfold TT bef
  simp only [Bool.or_eq_true, Bool.and_eq_true, decide_eq_true_eq, beq_iff_eq, Bool.or_eq_false_iff, Bool.and_eq_false_iff, decide_eq_false_iff_not]
  constructor
  · rintro (h | ⟨⟨h1, h2⟩, h3⟩)
    · omega
    · simp only [beq_eq_false_iff_ne] at h2
      omega
  · intro h
    by_cases h1 : (ix ls i).Size > (ix ls j).Size ∨ (ix ls i).Size = (ix ls j).Size ∧ (ix ls i).From < (ix ls j).From
    · exact .inl h1
    · refine .inr ⟨⟨by omega, ?_⟩, by omega⟩
      simp only [beq_eq_false_iff_ne]
      omega
theorem TT_trans (ls : List Life) (x y z : Int) (h1 : TT ls x y) (h2 : TT ls y z) : TT ls x z := by
  rw [TT_iff] at *; omega
theorem TT_asymm (ls : List Life) (x y : Int) (h1 : TT ls x y) (h2 : TT ls y x) : False := by
  rw [TT_iff] at *; omega
theorem cmp_eq (a b : Int) : Z1a a b = some (if a < b then -1 else if a > b then 1 else 0) := by
  unfold Z1a Z1g
  rw [Option.bind_some, Option.bind_some, bne_self_i, bne_self_i, if_neg (by decide), if_neg (by decide)]
  by_cases h : a < b
  · rw [if_pos (decide_eq_true h), if_pos h]
  · rw [if_neg (by simpa using h), if_neg h]
    by_cases h2 : a > b
    · rw [if_pos (decide_eq_true h2), if_pos h2]
    · rw [if_neg (by simpa using h2), if_neg h2]
theorem or_eq (a b : Int) : Zq [a, b] = some (if a ≠ 0 then a else b) := by
  unfold Zq
  have l2 : loopM (fun s : Int => Zq_L1 [a, b] s) 2 = some (.inr ()) := loopM_end (by show Zq_L1 _ _ = _; unfold Zq_L1; rfl)
  have s1 : Zq_L1 [a, b] 1 = if b ≠ 0 then some (.inr (.inl b)) else some (.inl 2) := by
    unfold Zq_L1
    rw [if_pos (by simp), if_pos (by simp)]
    have : ix [a, b] 1 = b := rfl
    rw [this]
    by_cases hb : b = 0
    · rw [if_neg (by simp [hb]), if_neg (by simp [hb])]; rfl
    · rw [if_pos (by simpa using hb), if_pos hb]
  have s0 : Zq_L1 [a, b] 0 = if a ≠ 0 then some (.inr (.inl a)) else some (.inl 1) := by
    unfold Zq_L1
    rw [if_pos (by simp), if_pos (by simp)]
    have : ix [a, b] 0 = a := rfl
    rw [this]
    by_cases hb : a = 0
    · rw [if_neg (by simp [hb]), if_neg (by simp [hb])]; rfl
    · rw [if_pos (by simpa using hb), if_pos hb]
  by_cases ha : a = 0
  · rw [if_neg (by simpa using ha), loopM_next (s' := 1) (by show Zq_L1 _ _ = _; rw [s0, if_neg (by simpa using ha)])]
    by_cases hb : b = 0
    · rw [loopM_next (s' := 2) (by show Zq_L1 _ _ = _; rw [s1, if_neg (by simpa using hb)]), l2, hb]; rfl
    · rw [loopM_end (by show Zq_L1 _ _ = _; rw [s1, if_pos hb])]; rfl
  · rw [if_pos ha, loopM_end (by show Zq_L1 _ _ = _; rw [s0, if_pos ha])]; rfl
theorem cmpOk (ls : List Life) : CmpOk (C1 ls) (bef ls) (fun x => 0 ≤ x ∧ x < (ls.length : Int)) := by
  intro x y hx hy
  refine ⟨if (if (ix ls y).Size < (ix ls x).Size then (-1 : Int) else if (ix ls y).Size > (ix ls x).Size then 1 else 0) ≠ 0 then (if (ix ls y).Size < (ix ls x).Size then (-1 : Int) else if (ix ls y).Size > (ix ls x).Size then 1 else 0) else (if (ix ls x).From < (ix ls y).From then (-1 : Int) else if (ix ls x).From > (ix ls y).From then 1 else 0), ?_, ?_⟩
  · show Z0z x y ls = some _
    unfold Z0z Z26
    rw [if_pos hx, if_pos hy, cmp_eq, Option.bind_some, cmp_eq, Option.bind_some, or_eq, Option.bind_some, Option.bind_some]
  · rw [Bool.eq_iff_iff]
    unfold bef
    simp only [Bool.or_eq_true, Bool.and_eq_true, decide_eq_true_eq, beq_iff_eq]
    (repeat' split) <;> omega
theorem inOrder_eq (ls : List Life) (h : ls.length ≤ 1048576) : ∃ X, Zz ls = some X ∧ X.Perm ((List.range ls.length).map fun k : Nat => (k : Int)) ∧ X.Pairwise (TT ls) := by
  unfold Zz
  rw [if_pos ⟨by omega, by omega, by omega⟩]
  have hfill : loopM (fun s : (List Int) × Int => Zz_L1 ls s.1 s.2) ((List.replicate (ls.length : Int).toNat (0 : Int)), (0 : Int)) = some ((List.range ls.length).map fun k : Nat => (k : Int)) := by
    have key : ∀ (m k : Nat), k + m = ls.length → loopM (fun s : (List Int) × Int => Zz_L1 ls s.1 s.2) (((List.range k).map fun k : Nat => (k : Int)) ++ List.replicate m (0 : Int), (k : Int)) = some ((List.range ls.length).map fun k : Nat => (k : Int)) := by
      intro m
      induction m with
      | zero =>
        intro k hk
        obtain rfl : k = ls.length := by omega
        refine loopM_end ?_
        show Zz_L1 _ _ _ = _
        unfold Zz_L1
        rw [if_neg (by simp)]
        simp
      | succ m ih =>
        intro k hk
        rw [loopM_next (s' := (((List.range (k + 1)).map fun k : Nat => (k : Int)) ++ List.replicate m (0 : Int), ((k + 1 : Nat) : Int)))]
        · exact ih (k + 1) (by omega)
        · show Zz_L1 _ _ _ = _
          unfold Zz_L1
          have e1 : w64 ((k : Int) + 1) = ((k + 1 : Nat) : Int) := by rw [w64_id (by omega) (by omega)]; omega
          rw [if_pos (by simp; omega), if_pos ⟨by omega, by simp; omega⟩, e1]
          simp only [Int.toNat_natCast]
          rw [List.replicate_succ, List.set_append_right _ _ (by simp), List.range_succ, List.map_append]
          simp
    have := key ls.length 0 (by omega)
    simpa using this
  rw [hfill, Option.bind_some]
  obtain ⟨X, x1, x2, x3⟩ := gSrt_ok (T := TT ls) (cmpOk ls) (TT_trans ls) ((List.range ls.length).map fun k : Nat => (k : Int)) (by
    unfold Go.Pg.Ord
    rw [List.pairwise_map]
    refine List.Pairwise.imp_of_mem ?_ List.pairwise_lt_range
    intro i j _ _ hij
    refine ⟨fun h => .inl h, fun h => .inr ⟨h, by omega⟩⟩) (by
    intro x hx
    obtain ⟨k, hk, rfl⟩ := List.mem_map.1 hx
    have := List.mem_range.1 hk
    omega) (by simp; omega)
  refine ⟨X, ?_, x2, x3⟩
  unfold Zz_J1
  rw [srt_eq, x1]
  rfl
structure Nxt1 (ls : List Life) (S : List Int) (k : Nat) (x : Int) : Prop where
  none : x < 0 → x = -1 ∧ ∀ j : Nat, j < k → 0 ≤ ix S (j : Int)
  some : 0 ≤ x → x < (k : Int) ∧ ix S x < 0 ∧ ∀ j : Nat, j < k → ix S (j : Int) < 0 → (j : Int) ≠ x → TT ls x (j : Int)
theorem next_ok (ls : List Life) (S : List Int) (hl : S.length = ls.length) (h : ls.length ≤ 1048576) : ∃ x, Zd ls S = some x ∧ Nxt1 ls S ls.length x := by
  have key : ∀ (m k : Nat) (x : Int), k + m = ls.length → Nxt1 ls S k x → ∃ y, loopM (fun s : Int × Int => Zd_L1 ls S s.1 s.2) (x, (k : Int)) = some y ∧ Nxt1 ls S ls.length y := by
    intro m
    induction m with
    | zero =>
      intro k x hk hx
      obtain rfl : k = ls.length := by omega
      refine ⟨x, loopM_end ?_, hx⟩
      show Zd_L1 _ _ _ _ = _
      unfold Zd_L1
      rw [if_neg (by simp)]
    | succ m ih =>
      intro k x hk hx
      have e1 : w64 ((k : Int) + 1) = ((k + 1 : Nat) : Int) := by rw [w64_id (by omega) (by omega)]; omega
      have hx0 : 0 ≤ x → x < (ls.length : Int) := fun h0 => by have := (hx.some h0).1; omega
      have go : ∀ x', Nxt1 ls S (k + 1) x' → Zd_L1 ls S x (k : Int) = some (.inl (x', ((k + 1 : Nat) : Int))) → ∃ y, loopM (fun s : Int × Int => Zd_L1 ls S s.1 s.2) (x, (k : Int)) = some y ∧ Nxt1 ls S ls.length y := by
        intro x' h1 h2
        rw [loopM_next (s' := (x', ((k + 1 : Nat) : Int))) h2]
        exact ih (k + 1) x' (by omega) h1
      by_cases hS : 0 ≤ ix S (k : Int)
      · refine go x ⟨fun h0 => ⟨(hx.none h0).1, fun j hj => ?_⟩, fun h0 => ⟨by have := (hx.some h0).1; omega, (hx.some h0).2.1, fun j hj hj2 hj3 => ?_⟩⟩ ?_
        · rcases Nat.lt_or_ge j k with h | h
          · exact (hx.none h0).2 j h
          · obtain rfl : j = k := by omega
            exact hS
        · rcases Nat.lt_or_ge j k with h | h
          · exact (hx.some h0).2.2 j h hj2 hj3
          · obtain rfl : j = k := by omega
            omega
        · unfold Zd_L1 Zd_J2
          rw [if_pos (by simp; omega), if_pos ⟨by omega, by omega⟩, if_pos (decide_eq_true hS), e1]
      · have hcond : Zd_L1 ls S x (k : Int) = if ((decide (x < 0)) || bef ls (k : Int) x) = true then some (.inl ((k : Int), ((k + 1 : Nat) : Int))) else some (.inl (x, ((k + 1 : Nat) : Int))) := by
          unfold Zd_L1 Zd_J2
          rw [if_pos (by simp; omega), if_pos ⟨by omega, by omega⟩, if_neg (by simpa using hS), e1]
          have hd : ∀ {c : Bool}, ((decide (x < 0)) || c) = false → 0 ≤ x ∧ x < (ls.length : Int) := fun h => by
            simp only [Bool.or_eq_false_iff, decide_eq_false_iff_not] at h
            exact ⟨by omega, hx0 (by omega)⟩
          have hd0 : decide (x < 0) = false → 0 ≤ x ∧ x < (ls.length : Int) := fun h => by
            simp only [decide_eq_false_iff_not] at h
            exact ⟨by omega, hx0 (by omega)⟩
          rw [if_pos (fun _ => ⟨by omega, by omega⟩), if_pos hd0, if_pos (fun _ => ⟨by omega, by omega⟩), if_pos hd, if_pos (fun _ _ => ⟨by omega, by omega⟩), if_pos (fun h _ => hd h)]
          unfold bef
          rw [Bool.or_assoc]
        by_cases hc : ((decide (x < 0)) || bef ls (k : Int) x) = true
        · refine go (k : Int) ⟨fun h0 => by omega, fun h0 => ⟨by omega, by omega, fun j hj hj2 hj3 => ?_⟩⟩ (by rw [hcond, if_pos hc])
          have hjk : j < k := by
            rcases Nat.lt_or_ge j k with h | h
            · exact h
            · exact absurd (show (j : Int) = k by omega) hj3
          rcases Int.lt_or_le x 0 with h | h
          · have := (hx.none h).2 j hjk; omega
          · have hb : bef ls (k : Int) x = true := by
              rcases Bool.or_eq_true _ _ ▸ hc with q | q
              · simp at q; omega
              · exact q
            have hkx : TT ls (k : Int) x := .inl hb
            by_cases hjx : (j : Int) = x
            · rw [hjx]; exact hkx
            · exact TT_trans ls _ _ _ hkx ((hx.some h).2.2 j hjk hj2 hjx)
        · refine go x ⟨fun h0 => by simp [h0] at hc, fun h0 => ⟨by have := (hx.some h0).1; omega, (hx.some h0).2.1, fun j hj hj2 hj3 => ?_⟩⟩ (by rw [hcond, if_neg hc])
          rcases Nat.lt_or_ge j k with h | h
          · exact (hx.some h0).2.2 j h hj2 hj3
          · obtain rfl : j = k := by omega
            simp only [Bool.or_eq_true, not_or, Bool.not_eq_true] at hc
            exact .inr ⟨hc.2, (hx.some h0).1⟩
  obtain ⟨y, h1, h2⟩ := key ls.length 0 (-1) (by omega) ⟨fun _ => ⟨rfl, fun j hj => by omega⟩, fun h => by omega⟩
  refine ⟨y, ?_, h2⟩
  unfold Zd
  rw [show ((0 : Nat) : Int) = (0 : Int) from rfl] at h1
  rw [h1]
  rfl
abbrev Sz (ls : List Life) (j : Nat) : Int := (ix ls (j : Int)).Size
def meetB (ls : List Life) (i k : Nat) : Bool := decide ((ix ls (i : Int)).From ≤ (ix ls (k : Int)).To) && decide ((ix ls (k : Int)).From ≤ (ix ls (i : Int)).To)
def ovY (ls : List Life) (S : List Int) (i : Nat) (y : Int) (k : Nat) : Bool := (meetB ls i k && decide (y < w64 (ix S (k : Int) + Sz ls k))) && decide (ix S (k : Int) < w64 (y + Sz ls i))
theorem freeY (ls : List Life) (S : List Int) (i : Nat) (y : Int) (hi : i < ls.length) (h : ls.length ≤ 1048576) (hl : S.length = ls.length) : Zj ls S (i : Int) y = some ((List.range ls.length).all fun k => (decide (k = i) || decide (ix S (k : Int) < 0)) || !ovY ls S i y k) := by
  unfold Zj
  rw [loop_allI ls.length (fun s : Int => Zj_L1 ls S (i : Int) y s) (fun k => k) (fun k => (decide (k = i) || decide (ix S (k : Int) < 0)) || !ovY ls S i y k) (.inl false) (.inr ()) (fun k hk => ?_) ?_]
  · rw [bind_some']
    cases (List.range ls.length).all fun k => (decide (k = i) || decide (ix S (k : Int) < 0)) || !ovY ls S i y k <;> rfl
  · show Zj_L1 ls S (i : Int) _ (ls.length : Int) = _
    unfold Zj_L1; rw [if_neg (by rw [nlt_]; decide)]
  · show Zj_L1 ls S (i : Int) _ (k : Int) = _
    have e : ((k : Int) == (i : Int)) = decide (k = i) := by rw [Bool.eq_iff_iff]; simp; omega
    unfold Zj_L1 Zj_J2 Z25 ovY meetB
    rw [if_pos (lt_ hk), if_pos (fun _ => by omega), if_pos (fun _ => by omega), if_pos (fun _ => by omega), e, w64k (by unfold big; omega)]
    cases hc : (decide (k = i) || decide (ix S (k : Int) < 0)) with
    | true => rw [show (!true) = false from rfl, gc_f, bind_some']; simp
    | false =>
      rw [show (!false) = true from rfl, gc_t, bind_some', Bool.false_or]
      cases hm : (decide ((ix ls (i : Int)).From ≤ (ix ls (k : Int)).To) && decide ((ix ls (k : Int)).From ≤ (ix ls (i : Int)).To)) with
      | false => simp
      | true =>
        rw [if_neg (by decide), if_pos (by omega), if_pos (by omega), if_pos (fun _ => by omega), Bool.true_and]
        split <;> rename_i q
        · rw [q]; rfl
        · rw [Bool.not_eq_true] at q; rw [q]; rfl
def FreeAt (ls : List Life) (S : List Int) (i : Nat) (y : Int) : Prop := ∀ k : Nat, k < ls.length → k ≠ i → 0 ≤ ix S (k : Int) → meetB ls i k = true → ix S (k : Int) + Sz ls k ≤ y ∨ y + Sz ls i ≤ ix S (k : Int)
structure LOk (ls : List Life) : Prop where
  len : ls.length ≤ 200
  sz : ∀ j : Nat, j < ls.length → 1 ≤ Sz ls j ∧ Sz ls j ≤ 4096
structure Pl (ls : List Life) (S : List Int) (P : List Int) (b : Int) : Prop where
  len : S.length = ls.length
  inn : ∀ j : Nat, j < ls.length → ((j : Int) ∈ P ↔ 0 ≤ ix S (j : Int))
  out : ∀ j : Nat, j < ls.length → ix S (j : Int) < 0 → ix S (j : Int) = -1
  bd : ∀ j : Nat, j < ls.length → 0 ≤ ix S (j : Int) → ix S (j : Int) + Sz ls j ≤ b
theorem free_iff {ls : List Life} (ho : LOk ls) {S P : List Int} {b : Int} (hp : Pl ls S P b) (hb : b ≤ 1000000) (i : Nat) (hi : i < ls.length) (y : Int) (hy : 0 ≤ y ∧ y ≤ 1000000) :
    ∃ r, Zj ls S (i : Int) y = some r ∧ (r = true ↔ FreeAt ls S i y) := by
  refine ⟨_, freeY ls S i y hi (by have := ho.len; omega) hp.len, ?_⟩
  rw [List.all_eq_true]
  have wi := ho.sz i hi
  constructor
  · intro h k hk hki h0 hm
    have := h k (List.mem_range.2 hk)
    have wk := ho.sz k hk
    have hbk := hp.bd k hk h0
    simp only [ovY, Bool.or_eq_true, decide_eq_true_eq, hki, false_or, Bool.not_eq_true', Bool.and_eq_false_iff, hm, decide_eq_false_iff_not, Bool.true_eq_false] at this
    rw [w64_id (by omega) (by omega), w64_id (by omega) (by omega)] at this
    omega
  · intro h k hk
    have hk := List.mem_range.1 hk
    have wk := ho.sz k hk
    by_cases hki : k = i
    · simp [hki]
    by_cases h0 : ix S (k : Int) < 0
    · simp [h0]
    have hbk := hp.bd k hk (by omega)
    simp only [ovY, Bool.or_eq_true, decide_eq_true_eq, hki, false_or, Bool.not_eq_true', Bool.and_eq_false_iff, decide_eq_false_iff_not, h0]
    rw [w64_id (by omega) (by omega), w64_id (by omega) (by omega)]
    cases hm : meetB ls i k with
    | false => exact .inl (.inl rfl)
    | true => have := h k hk hki (by omega) hm; omega
structure Best (ls : List Life) (S : List Int) (i : Nat) (k : Nat) (b : Int) : Prop where
  ok : b = -1 ∨ (0 ≤ b ∧ b ≤ 1000000 ∧ FreeAt ls S i b)
  zero : FreeAt ls S i 0 → b = 0
  least : ∀ j : Nat, j < k → 0 ≤ ix S (j : Int) → FreeAt ls S i (ix S (j : Int) + Sz ls j) → 0 ≤ b ∧ b ≤ ix S (j : Int) + Sz ls j
theorem best_loop {ls : List Life} (ho : LOk ls) {S P : List Int} {bd : Int} (hp : Pl ls S P bd) (hb : bd ≤ 1000000) (i : Nat) (hi : i < ls.length) : ∀ (m k : Nat) (b : Int), k + m = ls.length → Best ls S i k b →
    ∃ b', loopM (fun s : Int × Int => Z1_L3 ls S (i : Int) s.1 s.2) (b, (k : Int)) = some b' ∧ Best ls S i ls.length b' := by
  have hlen := ho.len
  have hpl := hp.len
  intro m
  induction m with
  | zero =>
    intro k b hk h
    obtain rfl : k = ls.length := by omega
    refine ⟨b, loopM_end ?_, h⟩
    show Z1_L3 _ _ _ _ _ = _
    unfold Z1_L3
    rw [if_neg (by simp)]
  | succ m ih =>
    intro k b hk h
    have e1 : w64 ((k : Int) + 1) = ((k + 1 : Nat) : Int) := by rw [w64_id (by omega) (by omega)]; omega
    have wk := ho.sz k (by omega)
    have go : ∀ b', Best ls S i (k + 1) b' → Z1_L3 ls S (i : Int) b (k : Int) = some (.inl (b', ((k + 1 : Nat) : Int))) → ∃ b', loopM (fun s : Int × Int => Z1_L3 ls S (i : Int) s.1 s.2) (b, (k : Int)) = some b' ∧ Best ls S i ls.length b' := by
      intro b' h1 h2
      rw [loopM_next (s' := (b', ((k + 1 : Nat) : Int))) h2]
      exact ih (k + 1) b' (by omega) h1
    have unf : Z1_L3 ls S (i : Int) b (k : Int) = (gcall ((decide ((ix S (k : Int)) ≥ (0 : Int))) && ((decide (b < (0 : Int))) || (decide ((w64 ((ix S (k : Int)) + Sz ls k)) < b)))) (Zj ls S (i : Int) (w64 ((ix S (k : Int)) + Sz ls k)))).bind fun (r126 : Bool) =>
        if (((decide ((ix S (k : Int)) ≥ (0 : Int))) && ((decide (b < (0 : Int))) || (decide ((w64 ((ix S (k : Int)) + Sz ls k)) < b)))) && r126) = true then some (.inl (w64 ((ix S (k : Int)) + Sz ls k), ((k + 1 : Nat) : Int))) else some (.inl (b, ((k + 1 : Nat) : Int))) := by
      unfold Z1_L3 Z1_J9
      rw [if_pos (by simp; omega), if_pos ⟨by omega, by omega⟩, if_pos ⟨by omega, by omega⟩, e1]
    by_cases h0 : 0 ≤ ix S (k : Int)
    · have hbk := hp.bd k (by omega) h0
      have ew : w64 (ix S (k : Int) + Sz ls k) = ix S (k : Int) + Sz ls k := w64_id (by omega) (by omega)
      rw [ew] at unf
      obtain ⟨r, hr1, hr2⟩ := free_iff ho hp hb i hi (ix S (k : Int) + Sz ls k) ⟨by omega, by omega⟩
      by_cases hc : b < 0 ∨ ix S (k : Int) + Sz ls k < b
      · have hg : ((decide ((ix S (k : Int)) ≥ (0 : Int))) && ((decide (b < (0 : Int))) || (decide ((ix S (k : Int)) + Sz ls k < b)))) = true := by
          simp only [Bool.and_eq_true, Bool.or_eq_true, decide_eq_true_eq]; exact ⟨h0, hc⟩
        rw [hg, gc_t, hr1, Option.bind_some, Bool.true_and] at unf
        by_cases hr : r = true
        · rw [if_pos hr] at unf
          refine go _ ⟨.inr ⟨by omega, by omega, hr2.1 hr⟩, fun hz => ?_, fun j hj h1 h2 => ?_⟩ unf
          · have := h.zero hz; omega
          · rcases Nat.lt_or_ge j k with hjk | hjk
            · have := h.least j hjk h1 h2; omega
            · obtain rfl : j = k := by omega
              omega
        · rw [if_neg hr] at unf
          refine go _ ⟨h.ok, h.zero, fun j hj h1 h2 => ?_⟩ unf
          rcases Nat.lt_or_ge j k with hjk | hjk
          · exact h.least j hjk h1 h2
          · obtain rfl : j = k := by omega
            exact absurd (hr2.2 h2) hr
      · have hg : ((decide ((ix S (k : Int)) ≥ (0 : Int))) && ((decide (b < (0 : Int))) || (decide ((ix S (k : Int)) + Sz ls k < b)))) = false := by
          simp only [Bool.and_eq_false_iff, Bool.or_eq_false_iff, decide_eq_false_iff_not]; omega
        rw [hg, gc_f, Option.bind_some, Bool.false_and, if_neg (by decide)] at unf
        refine go _ ⟨h.ok, h.zero, fun j hj h1 h2 => ?_⟩ unf
        rcases Nat.lt_or_ge j k with hjk | hjk
        · exact h.least j hjk h1 h2
        · obtain rfl : j = k := by omega
          omega
    · have hg : ∀ c : Bool, ((decide ((ix S (k : Int)) ≥ (0 : Int))) && c) = false := fun c => by
        rw [decide_eq_false (by omega)]; rfl
      rw [hg, gc_f, Option.bind_some, Bool.false_and, if_neg (by decide)] at unf
      refine go _ ⟨h.ok, h.zero, fun j hj h1 h2 => ?_⟩ unf
      rcases Nat.lt_or_ge j k with hjk | hjk
      · exact h.least j hjk h1 h2
      · obtain rfl : j = k := by omega
        omega
theorem best_is {ls : List Life} {S : List Int} {i : Nat} {b x M : Int} (h : Best ls S i ls.length b) (h0 : 0 ≤ x) (h1 : x + Sz ls i ≤ M) (h2 : FreeAt ls S i x) (h3 : ∀ y, 0 ≤ y → y + Sz ls i ≤ M → FreeAt ls S i y → x ≤ y) : b = x := by
  rcases Int.lt_or_le 0 x with hx | hx
  · have hn : ¬ FreeAt ls S i (x - 1) := fun hf => by have := h3 (x - 1) (by omega) (by omega) hf; omega
    have : ∃ k : Nat, k < ls.length ∧ 0 ≤ ix S (k : Int) ∧ ix S (k : Int) + Sz ls k = x := by
      apply Classical.byContradiction
      intro hne
      refine hn fun k hk hki hk0 hm => ?_
      have a := h2 k hk hki hk0 hm
      rcases a with a | a
      · have : ix S (k : Int) + Sz ls k ≠ x := fun e => hne ⟨k, hk, hk0, e⟩
        omega
      · omega
    obtain ⟨k, hk, hk0, e⟩ := this
    have hl := h.least k hk hk0 (by rw [e]; exact h2)
    rcases h.ok with ho | ho
    · omega
    · have := h3 b ho.1 (by omega) ho.2.2
      omega
  · obtain rfl : x = 0 := by omega
    exact h.zero h2
theorem holes_loop {ls : List Life} (ho : LOk ls) (X I : List Int) (m i : Nat) (hm : m < X.length) (hXm : ix X (m : Int) = (i : Int)) (hi : i < ls.length) (hI : I.length = ls.length) (hX : ∀ x ∈ X, 0 ≤ x ∧ x < (ls.length : Int)) (hXl : X.length = ls.length) (hIb : ∀ x ∈ X.take m, 0 ≤ ix I x ∧ ix I x ≤ 1000000) :
    ∀ (n q : Nat) (H : List hole), q + n = m → Good 823296 H → (∀ y s : Int, 0 < s → (fits H y s ↔ 0 ≤ y ∧ y + s ≤ 823296 ∧ ∀ p : Nat, p < q → ∀ j : Nat, ix X (p : Int) = (j : Int) → meetB ls i j = true → y + s ≤ ix I (j : Int) ∨ ix I (j : Int) + Sz ls j ≤ y)) →
      ∃ H', loopM (fun s : (List hole) × Int => Z8_L2 ls X I (m : Int) s.1 s.2) (H, (q : Int)) = some H' ∧ Good 823296 H' ∧ (∀ y s : Int, 0 < s → (fits H' y s ↔ 0 ≤ y ∧ y + s ≤ 823296 ∧ ∀ p : Nat, p < m → ∀ j : Nat, ix X (p : Int) = (j : Int) → meetB ls i j = true → y + s ≤ ix I (j : Int) ∨ ix I (j : Int) + Sz ls j ≤ y)) := by
  have hlen := ho.len
  have hsub : sub X (0 : Int) (m : Int) = X.take m := by unfold sub; simp
  have hsl : (X.take m).length = m := by rw [List.length_take]; omega
  intro n
  induction n with
  | zero =>
    intro q H hq hg hf
    obtain rfl : q = m := by omega
    refine ⟨H, loopM_end ?_, hg, hf⟩
    show Z8_L2 _ _ _ _ _ _ = _
    unfold Z8_L2
    rw [hsub, hsl, if_neg (by simp)]
  | succ n ih =>
    intro q H hq hg hf
    have e1 : w64 ((q : Int) + 1) = ((q + 1 : Nat) : Int) := by rw [w64_id (by omega) (by omega)]; omega
    have hqx : ix X (q : Int) ∈ X := by
      have := ix_mem (xs := X) (k := q) (by omega); exact this
    obtain ⟨j, hj⟩ := Int.eq_ofNat_of_zero_le (hX _ hqx).1
    have hjl := (hX _ hqx).2
    rw [hj] at hjl
    have hixs : ix (X.take m) (q : Int) = (j : Int) := by
      rw [← hj]
      unfold ix
      simp only [Int.toNat_natCast, List.getD_eq_getElem?_getD, List.getElem?_take]
      rw [if_pos (by omega)]
    have hjm : (j : Int) ∈ X.take m := by
      rw [← hixs]; exact ix_mem (xs := X.take m) (k := q) (by omega)
    have hIj := hIb _ hjm
    have wj := ho.sz j (by omega)
    have ew : w64 (ix I (j : Int) + Sz ls j) = ix I (j : Int) + Sz ls j := w64_id (by omega) (by omega)
    have unf : Z8_L2 ls X I (m : Int) H (q : Int) = if meetB ls i j = true then (Z6 H (ix I (j : Int)) (ix I (j : Int) + Sz ls j)).bind fun r => some (.inl (r, ((q + 1 : Nat) : Int))) else some (.inl (H, ((q + 1 : Nat) : Int))) := by
      have hrep : (0 : Int) ≤ (j : Int) ∧ (j : Int) < ((List.replicate (ls.length : Int).toNat (0 : Int)).length : Int) := ⟨by omega, by simp; omega⟩
      unfold Z8_L2 Z24 Z8_J5
      rw [hsub, hsl, hXm, hixs, if_pos (by simp; omega), if_pos ⟨by omega, by omega⟩, if_pos ⟨by omega, by omega⟩, if_pos ⟨by omega, by omega⟩, Option.bind_some, if_pos hrep, e1, ew]
      rfl
    have hgl := good_len H 0 (by omega) hg.1 hg.2
    have conv : ∀ y s : Int, (∀ p : Nat, p < q + 1 → ∀ j : Nat, ix X (p : Int) = (j : Int) → meetB ls i j = true → y + s ≤ ix I (j : Int) ∨ ix I (j : Int) + Sz ls j ≤ y) ↔ ((∀ p : Nat, p < q → ∀ j : Nat, ix X (p : Int) = (j : Int) → meetB ls i j = true → y + s ≤ ix I (j : Int) ∨ ix I (j : Int) + Sz ls j ≤ y) ∧ (meetB ls i j = true → y + s ≤ ix I (j : Int) ∨ ix I (j : Int) + Sz ls j ≤ y)) := by
      intro y s
      constructor
      · exact fun h => ⟨fun p hp => h p (by omega), fun hmt => h q (by omega) j hj hmt⟩
      · rintro ⟨h1, h2⟩ p hp j' hj' hmt
        rcases Nat.lt_or_ge p q with h | h
        · exact h1 p h j' hj' hmt
        · obtain rfl : p = q := by omega
          obtain rfl : j' = j := by omega
          exact h2 hmt
    by_cases hmt : meetB ls i j = true
    · rw [if_pos hmt, take_ok _ _ H (by omega), Option.bind_some] at unf
      rw [loopM_next (s' := (H.flatMap (cutH (ix I (j : Int)) (ix I (j : Int) + Sz ls j)), ((q + 1 : Nat) : Int))) unf]
      refine ih (q + 1) _ (by omega) (hg.cut _ _ (by omega)) fun y s hs => ?_
      rw [fits_cut (by omega) hs, hf y s hs, conv]
      constructor
      · rintro ⟨⟨a, b, c⟩, d⟩; exact ⟨a, b, c, fun _ => d⟩
      · rintro ⟨a, b, c, d⟩; exact ⟨⟨a, b, c⟩, d hmt⟩
    · rw [if_neg hmt] at unf
      rw [loopM_next (s' := (H, ((q + 1 : Nat) : Int))) unf]
      refine ih (q + 1) _ (by omega) hg fun y s hs => ?_
      rw [hf y s hs, conv]
      constructor
      · rintro ⟨a, b, c⟩; exact ⟨a, b, c, fun h => absurd h hmt⟩
      · rintro ⟨a, b, c, d⟩; exact ⟨a, b, c⟩
theorem list_ix {S I : List Int} (h : S.length = I.length) (hi : ∀ j : Nat, j < S.length → ix S (j : Int) = ix I (j : Int)) : S = I := by
  apply List.ext_getElem h
  intro j h1 h2
  have := hi j h1
  rw [ix_at h1, ix_at h2] at this
  exact this
theorem pack_rounds {ls : List Life} (ho : LOk ls) (X : List Int) (hX : X.Perm ((List.range ls.length).map fun k : Nat => (k : Int))) (hT : X.Pairwise (TT ls)) : ∀ (n m : Nat) (S I : List Int) (pk : Int), m + n = ls.length → Pl ls S (X.take m) ((m * 4096 : Nat) : Int) → I.length = ls.length → (∀ j : Nat, j < ls.length → 0 ≤ ix S (j : Int) → ix I (j : Int) = ix S (j : Int)) →
    ∃ F pk', (Zd ls S).bind (fun x => loopM (fun s : (List Int) × Int × Int => Z1_L2 ls s.1 s.2.1 s.2.2) (S, pk, x)) = some (F, pk') ∧
      loopM (fun s : (List Int) × Int × Int => Z8_L1 ls X s.1 s.2.1 s.2.2) (I, pk, (m : Int)) = some (F, pk') ∧ F.length = ls.length := by
  have hlen := ho.len
  have hXl : X.length = ls.length := by rw [hX.length_eq]; simp
  have hXm : ∀ x, x ∈ X ↔ 0 ≤ x ∧ x < (ls.length : Int) := fun x => by
    rw [hX.mem_iff, List.mem_map]
    constructor
    · rintro ⟨k, hk, rfl⟩; have := List.mem_range.1 hk; omega
    · rintro ⟨h0, h1⟩
      obtain ⟨k, rfl⟩ := Int.eq_ofNat_of_zero_le h0
      exact ⟨k, List.mem_range.2 (by omega), rfl⟩
  intro n
  induction n with
  | zero =>
    intro m S I pk hmn hp hI hIS
    obtain rfl : m = ls.length := by omega
    have hall : ∀ j : Nat, j < ls.length → 0 ≤ ix S (j : Int) := fun j hj => (hp.inn j hj).1 (by rw [List.take_of_length_le (by omega)]; exact (hXm _).2 ⟨by omega, by omega⟩)
    obtain ⟨x, hx1, hx2⟩ := next_ok ls S hp.len (by omega)
    have hxm : x = -1 := by
      rcases Int.lt_or_le x 0 with h | h
      · exact (hx2.none h).1
      · have := hx2.some h
        obtain ⟨j, rfl⟩ := Int.eq_ofNat_of_zero_le h
        have := hall j (by omega)
        omega
    have hSI : S = I := list_ix (by rw [hp.len, hI]) (fun j hj => (hIS j (by rw [← hp.len]; exact hj) (hall j (by rw [← hp.len]; exact hj))).symm)
    refine ⟨S, pk, ?_, loopM_end ?_, hp.len⟩
    · rw [hx1, Option.bind_some, hxm]
      refine loopM_end ?_
      show Z1_L2 _ _ _ _ = _
      unfold Z1_L2
      rw [if_neg (by simp)]
    · show Z8_L1 _ _ _ _ _ = _
      unfold Z8_L1
      rw [hXl, if_neg (by simp), hSI]
  | succ n ih =>
    intro m S I pk hmn hp hI hIS
    have hmX : m < X.length := by omega
    have hpl := hp.len
    have e1 : w64 ((m : Int) + 1) = ((m + 1 : Nat) : Int) := by rw [w64_id (by omega) (by omega)]; omega
    obtain ⟨i, hi⟩ := Int.eq_ofNat_of_zero_le ((hXm _).1 (ix_mem (xs := X) (k := m) hmX)).1
    have hil := ((hXm _).1 (ix_mem (xs := X) (k := m) hmX)).2
    rw [hi] at hil
    have hil : i < ls.length := by omega
    have hXget : X[m] = (i : Int) := by rw [← hi, ix_at hmX]
    have hsplit : X = X.take m ++ (i : Int) :: X.drop (m + 1) := by
      conv => lhs; rw [← List.take_append_drop m X]
      rw [List.drop_eq_getElem_cons hmX, hXget]
    have hnd : X.Nodup := by
      rw [hX.nodup_iff, List.nodup_iff_pairwise_ne, List.pairwise_map]
      refine List.Pairwise.imp ?_ List.pairwise_lt_range
      intro a b hab; omega
    have hiN : ¬ (i : Int) ∈ X.take m := by
      rw [hsplit] at hnd
      have := (List.pairwise_append.1 (List.nodup_iff_pairwise_ne.1 hnd)).2.2
      exact fun h => this _ h _ (by simp) rfl
    have hiS : ix S (i : Int) < 0 := by
      rcases Int.lt_or_le (ix S (i : Int)) 0 with h | h
      · exact h
      · exact absurd ((hp.inn i hil).2 h) hiN
    have wi := ho.sz i hil
    -- which comes next
    obtain ⟨x, hx1, hx2⟩ := next_ok ls S hp.len (by omega)
    have hxi : x = (i : Int) := by
      rcases Int.lt_or_le x 0 with h | h
      · have := (hx2.none h).2 i hil; omega
      · obtain ⟨a1, a2, a3⟩ := hx2.some h
        apply Classical.byContradiction
        intro hne
        have t1 : TT ls x (i : Int) := a3 i hil hiS (fun e => hne e.symm)
        obtain ⟨j, rfl⟩ := Int.eq_ofNat_of_zero_le h
        have hj : (j : Int) ∈ X := (hXm _).2 ⟨h, a1⟩
        have hjN : ¬ (j : Int) ∈ X.take m := fun hh => by have := (hp.inn j (by omega)).1 hh; omega
        rw [hsplit] at hj
        have hjd : (j : Int) ∈ X.drop (m + 1) := by
          rcases List.mem_append.1 hj with hh | hh
          · exact absurd hh hjN
          · rcases List.mem_cons.1 hh with hh | hh
            · exact absurd hh hne
            · exact hh
        rw [hsplit] at hT
        have t2 := (List.pairwise_cons.1 (List.pairwise_append.1 hT).2.1).1 _ hjd
        exact TT_asymm ls _ _ t1 t2
    subst hxi
    -- the pieces
    have hIb : ∀ x ∈ X.take m, 0 ≤ ix I x ∧ ix I x ≤ 1000000 := fun x hx => by
      obtain ⟨j, rfl⟩ := Int.eq_ofNat_of_zero_le ((hXm x).1 (List.mem_of_mem_take hx)).1
      have hjl := ((hXm _).1 (List.mem_of_mem_take hx)).2
      have h0 := (hp.inn j (by omega)).1 hx
      have hb := hp.bd j (by omega) h0
      have wj := ho.sz j (by omega)
      rw [hIS j (by omega) h0]
      omega
    obtain ⟨H, hH1, hH2, hH3⟩ := holes_loop ho X I m i hmX hi hil hI (fun x hx => (hXm x).1 hx) hXl hIb m 0 [(⟨(0 : Int), (823296 : Int)⟩ : hole)] (by omega) ⟨by simp, by simp⟩ (fun y s hs => by
      unfold fits
      simp)
    have hfree : ∀ y, fits H y (Sz ls i) ↔ 0 ≤ y ∧ y + Sz ls i ≤ 823296 ∧ FreeAt ls S i y := fun y => by
      rw [hH3 y _ (by omega)]
      constructor
      · rintro ⟨a, b, c⟩
        refine ⟨a, b, fun k hk hki h0 hm => ?_⟩
        have hkm := (hp.inn k hk).2 h0
        obtain ⟨p, hp1, hp2⟩ := List.getElem_of_mem hkm
        rw [List.length_take] at hp1
        rw [List.getElem_take] at hp2
        have := c p (by omega) k (by rw [ix_at (by omega)]; exact hp2) hm
        rw [hIS k hk h0] at this
        omega
      · rintro ⟨a, b, c⟩
        refine ⟨a, b, fun p hpm k hk hm => ?_⟩
        have hkm : (k : Int) ∈ X.take m := by
          rw [← hk, ix_at (by omega)]
          have := List.getElem_mem (l := X.take m) (n := p) (by rw [List.length_take]; omega)
          rw [List.getElem_take] at this
          exact this
        have hkl := ((hXm _).1 (List.mem_of_mem_take hkm)).2
        have h0 := (hp.inn k (by omega)).1 hkm
        have := c k (by omega) (fun e => by subst e; exact hiN hkm) h0 hm
        rw [hIS k (by omega) h0]
        omega
    have hbig : FreeAt ls S i ((m * 4096 : Nat) : Int) := fun k hk hki h0 hm => .inl (hp.bd k hk h0)
    obtain ⟨k, hk, hk1, hk2, hk3⟩ := index_ok ls i hil (M := 823296) (by omega) (by omega) H hH2 (Sz ls i) rfl (by omega) ⟨_, (hfree _).2 ⟨by omega, by omega, hbig⟩⟩
    have hx := (hfree _).1 hk2
    have hxm := hk3 _ ((hfree ((m * 4096 : Nat) : Int)).2 ⟨by omega, by omega, hbig⟩)
    have hixk : ix H (k : Int) = H[k] := ix_at hk
    generalize hxv : (H[k]).from_ = v at hx hxm hk2 hk3
    -- the best place
    obtain ⟨r, hr1, hr2⟩ := free_iff ho hp (by omega) i hil 0 ⟨by omega, by omega⟩
    have hbest : ∃ b0 : Int, (b0 = if r = true then 0 else -1) ∧ Best ls S i 0 b0 := by
      refine ⟨_, rfl, ?_⟩
      by_cases hr : r = true
      · rw [if_pos hr]
        exact ⟨.inr ⟨by omega, by omega, hr2.1 hr⟩, fun _ => rfl, fun j hj => by omega⟩
      · rw [if_neg hr]
        exact ⟨.inl rfl, fun hz => absurd (hr2.2 hz) hr, fun j hj => by omega⟩
    obtain ⟨b0, hb0, hB0⟩ := hbest
    obtain ⟨b, hb1, hb2⟩ := best_loop ho hp (by omega) i hil ls.length 0 b0 (by omega) hB0
    have hbv : b = v := best_is (M := 823296) hb2 hx.1 hx.2.1 hx.2.2 (fun y h1 h2 h3 => hk3 y ((hfree y).2 ⟨h1, h2, h3⟩))
    subst hbv
    have ew : w64 (b + Sz ls i) = b + Sz ls i := w64_id (by omega) (by omega)
    have ixs : ∀ (L : List Int), L.length = ls.length → ix (L.set i b) (i : Int) = b := fun L hL => by
      rw [ix_at (by simp; omega)]; simp
    have ixn : ∀ (L : List Int) (j : Nat), L.length = ls.length → j < ls.length → j ≠ i → ix (L.set i b) (j : Int) = ix L (j : Int) := fun L j hL hj hne => by
      rw [ix_at (by simp; omega), ix_at (by omega), List.getElem_set_ne (by omega)]
    have htake : X.take (m + 1) = X.take m ++ [(i : Int)] := by
      rw [List.take_succ_eq_append_getElem hmX, hXget]
    have hp' : Pl ls (S.set i b) (X.take (m + 1)) (((m + 1) * 4096 : Nat) : Int) := by
      refine ⟨by simp; exact hp.len, fun j hj => ?_, fun j hj h0 => ?_, fun j hj h0 => ?_⟩
      · rw [htake, List.mem_append, List.mem_singleton]
        by_cases hji : j = i
        · subst hji; rw [ixs S hp.len]; simp [hx.1]
        · rw [ixn S j hp.len hj hji, hp.inn j hj]
          constructor
          · rintro (h | h)
            · exact h
            · omega
          · exact .inl
      · by_cases hji : j = i
        · subst hji; rw [ixs S hp.len] at h0; omega
        · rw [ixn S j hp.len hj hji] at h0 ⊢; exact hp.out j hj h0
      · by_cases hji : j = i
        · subst hji; rw [ixs S hp.len]; omega
        · rw [ixn S j hp.len hj hji] at h0 ⊢
          exact Int.le_trans (hp.bd j hj h0) (Int.ofNat_le.2 (Nat.mul_le_mul_right 4096 (Nat.le_succ m)))
    have hmn' : m + 1 + n = ls.length := by omega
    have hI' : (I.set i b).length = ls.length := by rw [List.length_set]; exact hI
    obtain ⟨F, pk', f1, f2, f3⟩ := ih (m + 1) (S.set i b) (I.set i b) (if b + Sz ls i > pk then b + Sz ls i else pk) hmn' hp' hI' (fun j hj h0 => by
      by_cases hji : j = i
      · subst hji; rw [ixs S hp.len, ixs I hI]
      · rw [ixn S j hp.len hj hji] at h0 ⊢; rw [ixn I j hI hj hji]; exact hIS j hj h0)
    refine ⟨F, pk', ?_, ?_, f3⟩
    · rw [hx1, Option.bind_some]
      cases hnx : Zd ls (S.set i b) with
      | none => rw [hnx] at f1; cases f1
      | some x' =>
        rw [hnx, Option.bind_some] at f1
        rw [loopM_next (s' := (S.set i b, (if b + Sz ls i > pk then b + Sz ls i else pk), x')), f1]
        show Z1_L2 ls S pk (i : Int) = _
        unfold Z1_L2
        rw [if_pos (by simp), hr1, Option.bind_some]
        have j7 : Z1_J7 ls S pk (i : Int) b0 = some (.inl (S.set i b, (if b + Sz ls i > pk then b + Sz ls i else pk), x')) := by
          unfold Z1_J7
          rw [show ((0 : Nat) : Int) = (0 : Int) from rfl] at hb1
          rw [hb1, Option.bind_some]
          unfold Z1_J10
          rw [if_pos ⟨by omega, by omega⟩, if_pos ⟨by omega, by omega⟩]
          show (if decide (w64 (b + Sz ls i) > pk) = true then Z1_J11 ls (S.set (i : Int).toNat b) (w64 (b + Sz ls i)) else Z1_J11 ls (S.set (i : Int).toNat b) pk) = _
          simp only [Int.toNat_natCast]
          unfold Z1_J11
          rw [hnx, Option.bind_some, Option.bind_some, ew]
          by_cases hq : b + Sz ls i > pk
          · rw [if_pos (decide_eq_true hq), if_pos hq]
          · rw [if_neg (by simpa using hq), if_neg hq]
        by_cases hr : r = true
        · rw [if_pos hr]; rw [hb0, if_pos hr] at j7; exact j7
        · rw [if_neg hr]; rw [hb0, if_neg hr] at j7; exact j7
    · rw [loopM_next (s' := (I.set i b, (if b + Sz ls i > pk then b + Sz ls i else pk), ((m + 1 : Nat) : Int))), f2]
      show Z8_L1 ls X I pk (m : Int) = _
      unfold Z8_L1
      rw [if_pos (by simp; omega), if_pos ⟨by omega, by omega⟩, if_pos ⟨by omega, by omega, by omega⟩]
      rw [show ((0 : Nat) : Int) = (0 : Int) from rfl] at hH1
      rw [hH1, Option.bind_some]
      have hrep : (0 : Int) ≤ (i : Int) ∧ (i : Int) < ((List.replicate (ls.length : Int).toNat (0 : Int)).length : Int) := ⟨by omega, by simp; omega⟩
      unfold Z8_J6
      rw [hi, hk1, Option.bind_some, if_pos ⟨by omega, by omega⟩, if_pos hrep, if_pos ⟨by omega, by omega⟩, hixk, hxv]
      simp only [Int.toNat_natCast]
      rw [ixs I hI, e1]
      show some (Sum.inl (I.set i b, (if w64 (b + Sz ls i) > pk then w64 (b + Sz ls i) else pk), _)) = _
      rw [ew]
theorem lok_of {ls : List Life} (h : (decide (ls.length ≤ 200) && ls.all okL) = true) : LOk ls := by
  rw [Bool.and_eq_true, decide_eq_true_eq, List.all_eq_true] at h
  refine ⟨h.1, fun j hj => ?_⟩
  have := h.2 _ (ix_mem hj)
  unfold okL at this
  simp only [Bool.not_eq_true', Bool.or_eq_false_iff, decide_eq_false_iff_not] at this
  show 1 ≤ (ix ls (j : Int)).Size ∧ (ix ls (j : Int)).Size ≤ 4096
  omega
theorem pack_eq (ls : List Life) (h : ls.length ≤ 1048576) : ∃ F pk, Z1 ls = some (F, pk) ∧ Z8 ls = some (F, pk) ∧ ((decide (ls.length ≤ 200) && ls.all okL) = true → F.length = ls.length) ∧ F.length ≤ 1048576 := by
  unfold Z1 Z8
  rw [l12Ok_s ls h, livesOk_i ls h, Option.bind_some, Option.bind_some]
  by_cases hq : (decide (ls.length ≤ 200) && ls.all okL) = true
  · have ho := lok_of hq
    have hlen := ho.len
    rw [hq, if_neg (by decide), if_neg (by decide)]
    obtain ⟨X, x1, x2, x3⟩ := inOrder_eq ls h
    rw [x1, Option.bind_some, if_pos ⟨by omega, by omega, by omega⟩]
    have hrep : ∀ j : Nat, j < ls.length → ix (List.replicate ls.length (-1 : Int)) (j : Int) = -1 := fun j hj => by rw [ix_at (by simpa using hj)]; simp
    obtain ⟨F, pk, f1, f2, f3⟩ := pack_rounds ho X x2 x3 ls.length 0 (List.replicate ls.length (-1)) (List.replicate ls.length 0) 0 (by omega) ⟨by simp, fun j hj => by rw [hrep j hj]; simp, fun j hj _ => hrep j hj, fun j hj h0 => by rw [hrep j hj] at h0; omega⟩ (by simp) (fun j hj h0 => by rw [hrep j hj] at h0; omega)
    have hfill : loopM (fun s : (List Int) × Int => Z1_L1 ls s.1 s.2) (([] : List Int), (0 : Int)) = some (List.replicate ls.length (-1)) := by
      have key : ∀ (m k : Nat), k + m = ls.length → loopM (fun s : (List Int) × Int => Z1_L1 ls s.1 s.2) (List.replicate k (-1), (k : Int)) = some (List.replicate ls.length (-1)) := by
        intro m
        induction m with
        | zero =>
          intro k hk
          obtain rfl : k = ls.length := by omega
          refine loopM_end ?_
          show Z1_L1 _ _ _ = _
          unfold Z1_L1
          rw [if_neg (by simp)]
        | succ m ih =>
          intro k hk
          rw [loopM_next (s' := (List.replicate (k + 1) (-1), ((k + 1 : Nat) : Int)))]
          · exact ih (k + 1) (by omega)
          · show Z1_L1 _ _ _ = _
            unfold Z1_L1
            have e1 : w64 ((k : Int) + 1) = ((k + 1 : Nat) : Int) := by rw [w64_id (by omega) (by omega)]; omega
            rw [if_pos (by simp; omega), if_pos (by simp; omega), e1, ← List.replicate_succ']
      exact key ls.length 0 (by omega)
    refine ⟨F, pk, ?_, ?_, fun _ => f3, by omega⟩
    · rw [hfill, Option.bind_some]
      unfold Z1_J1
      cases hnx : Zd ls (List.replicate ls.length (-1)) with
      | none => rw [hnx] at f1; cases f1
      | some x =>
        rw [hnx, Option.bind_some] at f1
        rw [Option.bind_some, f1]
        rfl
    · rw [show (List.replicate (ls.length : Int).toNat (0 : Int)) = List.replicate ls.length 0 by simp]
      rw [show ((0 : Nat) : Int) = (0 : Int) from rfl] at f2
      rw [f2]
      rfl
  · rw [Bool.not_eq_true] at hq
    rw [hq, if_pos (by decide), if_pos (by decide)]
    exact ⟨[], 0, rfl, rfl, fun h => (by cases h), by simp⟩
theorem markP2_eq (p : Plan) (h : Sm p.Nest) (ho : p.Offsets.length ≤ 1048576) : ∃ (m : Nat) (r : (List Int) × (List Int) × (List Fix) × (List Kernel) × (List Int) × (List Int)), Z1x p 1 = some ((m : Int), r) ∧ ∀ A : Int, Z1d ⟨⟨r.1, r.2.1, r.2.2.1, r.2.2.2.1, r.2.2.2.2.1⟩, r.2.2.2.2.2, A⟩ 1 = some (m : Int) := by
  obtain ⟨m, x, f1, f2⟩ := markN_eq p.Nest h
  have hb : m + p.Offsets.length ≤ BB := by
    have hb := sm_bounds2 p.Nest h
    have a1 := markI_eq p.Nest.Sizes 1 h.sizes (by omega)
    have a2 := markI_eq p.Nest.Ins (1 + p.Nest.Sizes.length) h.ins (by omega)
    have a3 := markF_eq p.Nest.Fixed (1 + p.Nest.Sizes.length + p.Nest.Ins.length) h.fixed h.data (by omega)
    have a4 := markK_eq p.Nest.Kernels (1 + p.Nest.Sizes.length + p.Nest.Ins.length + cnt nF p.Nest.Fixed) h.kers (fun k hk => h.ker hk) (by omega)
    have a5 := markI_eq p.Nest.Outs (1 + p.Nest.Sizes.length + p.Nest.Ins.length + cnt nF p.Nest.Fixed + cnt nK p.Nest.Kernels) h.outs (by omega)
    have e1 : ((1 : Nat) : Int) = 1 := rfl
    rw [e1] at a1
    unfold Z18 at f1
    rw [a1.1, bind_some', a2.1, bind_some', a3.1, bind_some', a4.1, bind_some', a5.1, bind_some'] at f1
    have := congrArg Prod.fst (Option.some.inj f1)
    simp only at this
    omega
  have a6 := markI_eq p.Offsets m ho hb
  refine ⟨m + p.Offsets.length, (x.1, x.2.1, x.2.2.1, x.2.2.2.1, x.2.2.2.2, mkI p.Offsets m), ?_, fun A => ?_⟩
  · unfold Z1x
    rw [f1, bind_some']
    simp only []
    rw [a6.1, bind_some']
  · unfold Z1d
    simp only []
    rw [f2, bind_some', nonneg_, a6.2, bind_some', nonneg_]
    rfl
theorem offs_loop (ls : List Life) (F O : List Int) (B : Nat) (hB : O.length = B) (hl : ls.length ≤ 1048576) (hF : F.length = ls.length) (hb : ∀ a ∈ ls, 0 ≤ a.Buffer ∧ a.Buffer < (B : Int)) (f : (List Int) × Int → Option (((List Int) × Int) ⊕ (List Int)))
    (h1 : ∀ (o : List Int) (k : Nat), k < ls.length → f (o, (k : Int)) = some (.inl (o.set (ix ls (k : Int)).Buffer.toNat (ix F (k : Int)), ((k + 1 : Nat) : Int)))) (h2 : ∀ o : List Int, f (o, (ls.length : Int)) = some (.inr o)) :
    ∃ R, R.length = B ∧ ∀ g : (List Int) × Int → Option (((List Int) × Int) ⊕ (List Int)), (∀ (o : List Int) (k : Nat), k < ls.length → g (o, (k : Int)) = some (.inl (o.set (ix ls (k : Int)).Buffer.toNat (ix F (k : Int)), ((k + 1 : Nat) : Int)))) → (∀ o : List Int, g (o, (ls.length : Int)) = some (.inr o)) → loopM g (O, 0) = some R := by
  have key : ∀ (m k : Nat) (o : List Int), k + m = ls.length → o.length = B → ∃ R : List Int, R.length = B ∧ ∀ g : (List Int) × Int → Option (((List Int) × Int) ⊕ (List Int)), (∀ (o : List Int) (k : Nat), k < ls.length → g (o, (k : Int)) = some (.inl (o.set (ix ls (k : Int)).Buffer.toNat (ix F (k : Int)), ((k + 1 : Nat) : Int)))) → (∀ o : List Int, g (o, (ls.length : Int)) = some (.inr o)) → loopM g (o, (k : Int)) = some R := by
    intro m
    induction m with
    | zero =>
      intro k o hk ho
      obtain rfl : k = ls.length := by omega
      exact ⟨o, ho, fun g _ hg => loopM_end (hg o)⟩
    | succ m ih =>
      intro k o hk ho
      obtain ⟨R, r1, r2⟩ := ih (k + 1) (o.set (ix ls (k : Int)).Buffer.toNat (ix F (k : Int))) (by omega) (by simp; exact ho)
      exact ⟨R, r1, fun g hg1 hg2 => by rw [loopM_next (hg1 o k (by omega))]; exact r2 g hg1 hg2⟩
  exact key ls.length 0 O (by omega) hB
theorem neg_fill (l : Nest) (h : l.Sizes.length ≤ 1048576) : loopM (fun s : (List Int) × Int => Ze_L1 l s.1 s.2) (([] : List Int), (0 : Int)) = some (List.replicate l.Sizes.length (-1)) := by
  have key : ∀ (m k : Nat), k + m = l.Sizes.length → loopM (fun s : (List Int) × Int => Ze_L1 l s.1 s.2) (List.replicate k (-1), (k : Int)) = some (List.replicate l.Sizes.length (-1)) := by
    intro m
    induction m with
    | zero =>
      intro k hk
      obtain rfl : k = l.Sizes.length := by omega
      refine loopM_end ?_
      show Ze_L1 l _ _ = _
      unfold Ze_L1
      rw [if_neg (by simp)]
    | succ m ih =>
      intro k hk
      rw [loopM_next (s' := (List.replicate (k + 1) (-1), ((k + 1 : Nat) : Int)))]
      · exact ih (k + 1) (by omega)
      · show Ze_L1 l _ _ = _
        unfold Ze_L1
        have e1 : w64 ((k : Int) + 1) = ((k + 1 : Nat) : Int) := by rw [w64_id (by omega) (by omega)]; omega
        rw [if_pos (by simp; omega), if_pos (by simp; omega), e1, ← List.replicate_succ']
  exact key l.Sizes.length 0 (by omega)
theorem lifeP_buf (l : Nest) (b : Int) : (lifeP l b).1.Buffer = b := by
  unfold lifeP; rfl
theorem lives_buf {l : Nest} : ∀ a ∈ livesP l, 0 ≤ a.Buffer ∧ a.Buffer < (l.Sizes.length : Int) := fun a ha => by
  obtain ⟨b, hb, rfl, _⟩ := lives_mem ha
  rw [lifeP_buf]
  omega
theorem scan_ord (b : Int) (ks : List Kernel) (j : Nat) (s : Int × Int) (h1 : s.2 ≤ s.1) (h2 : s.1 < (j : Int)) : (scanL b ks j s).2 ≤ (scanL b ks j s).1 := by
  induction ks generalizing j s with
  | nil => exact h1
  | cons k ks ih =>
    unfold scanL
    refine ih (j + 1) _ ?_ ?_
    · split
      · simp only; split <;> omega
      · exact h1
    · split
      · simp only; omega
      · omega
theorem lives_okL {l : Nest} (h : NB l) : (decide ((livesP l).length ≤ 200) && (livesP l).all okL) = true := by
  rw [Bool.and_eq_true, decide_eq_true_eq, List.all_eq_true]
  refine ⟨lives_len h, fun a ha => ?_⟩
  obtain ⟨b, hb, rfl, h2⟩ := lives_mem ha
  have h3 := scan_ord (b : Int) l.Kernels 0 (-1, -1) (by decide) (by decide)
  have h4 := scan_bd (b : Int) l.Kernels 0 (-1, -1) (l.Kernels.length : Int) (by omega) (by simp only; omega) (by simp only; omega)
  have hk := h.kers
  have hsz := h.sz (ix l.Sizes (b : Int)) (ix_mem hb)
  unfold lifeP at h2 ⊢
  generalize scanL (b : Int) l.Kernels 0 (-1, -1) = s at h2 h3 h4 ⊢
  simp only [Bool.and_eq_true, decide_eq_true_eq] at h2
  unfold okL
  simp only [Bool.not_eq_true', Bool.or_eq_false_iff, decide_eq_false_iff_not]
  refine ⟨⟨⟨⟨by omega, by omega⟩, ?_⟩, ?_⟩, ?_⟩
  · split
    · rename_i hc
      simp only [Bool.and_eq_true, decide_eq_true_eq] at hc
      omega
    · omega
  · by_cases ho : decide ((b : Int) ∈ l.Outs) = true
    · rw [if_pos ho]; split <;> omega
    · rw [if_neg ho]
      (repeat' split) <;> omega
  · by_cases ho : decide ((b : Int) ∈ l.Outs) = true
    · rw [if_pos ho]; omega
    · rw [if_neg ho]; split <;> omega
def emptyP : Plan := ⟨⟨[], [], [], [], []⟩, [], 0⟩
theorem plan_eq (l : Nest) (hs : Sm l) : ∃ p b, Ze l = some (p, b) ∧ Zt l = some (p, b) ∧ Sm p.Nest ∧ p.Offsets.length ≤ 1048576 := by
  unfold Ze Zt
  rw [Z29 l hs, Z2b l hs, bind_some', bind_some']
  by_cases hq : nestB l = true
  · have hnb := nb_of hq hs
    have hll := lives_len hnb
    obtain ⟨F, pk, p1, p2, p3, p4⟩ := pack_eq (livesP l) (by omega)
    have hF := p3 (lives_okL hnb)
    have hsz := hs.sizes
    obtain ⟨R, r1, r2⟩ := offs_loop (livesP l) F (List.replicate l.Sizes.length (-1)) l.Sizes.length (by simp) (by omega) hF (fun a ha => lives_buf a ha) (fun s => if s.2 = ((livesP l).length : Int) then some (.inr s.1) else some (.inl (s.1.set (ix (livesP l) s.2).Buffer.toNat (ix F s.2), s.2 + 1))) (fun o k hk => by
      simp only []
      rw [if_neg (by omega)]; rfl) (fun o => by simp)
    have hbuf : ∀ k : Nat, k < (livesP l).length → 0 ≤ (ix (livesP l) (k : Int)).Buffer ∧ (ix (livesP l) (k : Int)).Buffer < (l.Sizes.length : Int) := fun k hk => lives_buf _ (ix_mem hk)
    refine ⟨⟨l, R, pk⟩, true, ?_, ?_, hs, by show R.length ≤ _; omega⟩
    · rw [hq, if_neg (by decide), copyNest_eq l hs, bind_some', neg_fill l hs.sizes, bind_some']
      unfold Ze_J1
      rw [lives_s (by rw [Z29 l hs, hq]) hnb, bind_some', p1, bind_some']
      rw [r2 (fun s => Ze_L2 (List.replicate l.Sizes.length (-1)) (livesP l) (F, pk) s.1 s.2) (fun o k hk => by
        have hbk := hbuf k hk
        show Ze_L2 _ (livesP l) (F, pk) o (k : Int) = _
        unfold Ze_L2
        rw [if_pos (lt_ hk), if_pos (inr_ hk), if_pos (show (0 : Int) ≤ (k : Int) ∧ (k : Int) < ((F, pk).1.length : Int) from ⟨by omega, by show (k : Int) < (F.length : Int); omega⟩), if_pos ⟨hbk.1, by rw [List.length_replicate]; exact hbk.2⟩, w64k (by unfold big; omega)]) (fun o => by
        show Ze_L2 _ (livesP l) (F, pk) o _ = _
        unfold Ze_L2
        rw [if_neg (by rw [nlt_]; decide)]), bind_some']
      rfl
    · rw [hq, if_neg (by decide), lives_i hnb, bind_some', p2, bind_some', cloneNest_eq l hs, bind_some']
      have hrep : Z0x [(-1 : Int)] (l.Sizes.length : Int) = some (List.replicate l.Sizes.length (-1)) := by
        unfold Z0x
        rw [if_pos ⟨rfl, by omega, by omega⟩]
        rfl
      rw [hrep, bind_some']
      rw [r2 (fun s => Zt_L1 (livesP l) (F, pk) (List.replicate l.Sizes.length (-1)) s.1 s.2) (fun o k hk => by
        have hbk := hbuf k hk
        show Zt_L1 (livesP l) (F, pk) _ o (k : Int) = _
        unfold Zt_L1
        rw [if_pos (lt_ hk), if_pos (inr_ hk), if_pos (show (0 : Int) ≤ (k : Int) ∧ (k : Int) < ((F, pk).1.length : Int) from ⟨by omega, by show (k : Int) < (F.length : Int); omega⟩), if_pos ⟨hbk.1, by rw [List.length_replicate]; exact hbk.2⟩, w64k (by unfold big; omega)]) (fun o => by
        show Zt_L1 (livesP l) (F, pk) _ o _ = _
        unfold Zt_L1
        rw [if_neg (by rw [nlt_]; decide)]), bind_some']
      rfl
  · rw [Bool.not_eq_true] at hq
    rw [hq]
    exact ⟨emptyP, false, rfl, rfl, ⟨by simp [emptyP], by simp [emptyP], by simp [emptyP], by simp [emptyP], by simp [emptyP], by simp [emptyP], by simp [emptyP], by simp [emptyP], by simp [emptyP], by simp [emptyP], by simp [emptyP]⟩, by simp [emptyP]⟩
theorem law_makeplan (aL : Nest) (hc : CapN aL) : Z21 aL = some true := by
  unfold Z21
  rw [szNest_eq hc (by decide) (by decide), bind_some']
  by_cases hn : szR (nNest aL) 1048576 < 0
  · rw [if_pos (by simpa using hn)]
  rw [if_neg (by simpa using hn)]
  have hle : nNest aL ≤ 1048576 := by
    unfold szR at hn
    split at hn <;> rename_i q
    · exact absurd (by decide) hn
    · omega
  have hs := sm_of_n hle
  obtain ⟨p, b, e1, e2, hp, ho⟩ := plan_eq aL hs
  obtain ⟨m1, x1, f1, _⟩ := markN_eq aL hs
  obtain ⟨m2, x2, f2, f3⟩ := markP2_eq p hp ho
  have hq : (b == b) = true := by simp
  have he := eqPlan_rfl p hp ho
  rw [toNest_eq aL hs, bind_some', e1, bind_some', bind_some', e2, bind_some']
  simp only []
  rw [he, bind_some', hq]
  simp only [Bool.not_true, Bool.or_self, Bool.false_eq_true, if_false]
  rw [bind_some', eqNest_rfl aL hs, bind_some']
  simp only [Bool.not_true, Bool.false_eq_true, if_false]
  rw [f1, bind_some', nonneg_]
  simp only [Bool.not_false, gc_t, he, bind_some', Bool.not_true, Bool.or_self, Bool.false_eq_true, if_false]
  rw [f2, bind_some']
  simp only []
  rw [f3, bind_some', nonneg_, e2, bind_some']
  simp only []
  rw [he, bind_some', hq]
  simp only [bind_some', nonneg_, bne_self_i, Bool.not_true, Bool.or_self, Bool.false_eq_true, if_false]
end Go.Proofs.YtkfgngcfcoplpaaGreat
