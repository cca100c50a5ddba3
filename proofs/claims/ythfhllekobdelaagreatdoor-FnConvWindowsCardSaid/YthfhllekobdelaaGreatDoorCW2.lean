import Derived.Test.YthfhllekobdelaaGreatDoorDW1
import Derived.Test.YthfhllekobdelaaGreatDoorCvF
import Derived.Test.YthfhllekobdelaaGreatDoorCV17
set_option linter.unusedVariables false
set_option linter.unusedSimpArgs false
namespace Go.Proofs.YthfhllekobdelaaGreatDoor
open Go Go.Pg
structure Cu (c : l1Cur) : Prop where
  n : c.b.length ≤ 1048576
  i : 0 ≤ c.i
theorem iV {c : l1Cur} (h : Cu c) : Oc (Z02 c) (fun r => (0 ≤ r.1 ∧ r.1 ≤ 255) ∧ Cu r.2) := by
  unfold Z02 Z02_J1
  have g := h.n; have e := h.i
  refine Oc.ite (fun a => Oc.gd ⟨e, by simpa using a⟩ (Oc.mk ⟨qG _, g, ?_⟩)) (fun _ => Oc.mk ⟨qG _, g, e⟩)
  have a : c.i < (c.b.length : Int) := by simpa using a
  show 0 ≤ aG (c.i + 1)
  rw [aX (by omega) (by omega)]; omega
theorem dI {c : l1Cur} {n : Int} (h : Cu c) (g : 0 < n) : Oc (Z8 c n) (fun r => (0 ≤ r.1 ∧ r.1 < n) ∧ Cu r.2) := by
  unfold Z8
  rw [if_neg (by simpa using g)]
  refine Oc.ite (fun _ => (iV h).bind fun r u => Oc.gd (by omega) (Oc.mk ⟨nZ u.1.1 g, u.2⟩)) (fun _ => ?_)
  refine (iV h).bind fun a i => (iV i.2).bind fun b j => (iV j.2).bind fun d m => (iV m.2).bind fun e q => Oc.gd (by omega) (Oc.mk ⟨nZ ?_ g, q.2⟩)
  obtain ⟨⟨D, E⟩, -⟩ := i; obtain ⟨⟨F, G⟩, -⟩ := j; obtain ⟨⟨d1, d2⟩, -⟩ := m; obtain ⟨⟨I, J⟩, -⟩ := q
  rw [aX (n := a.1 * 16777216) (by omega) (by omega), aX (n := b.1 * 65536) (by omega) (by omega), aX (n := d.1 * 256) (by omega) (by omega), aX (n := a.1 * 16777216 + b.1 * 65536) (by omega) (by omega), aX (n := a.1 * 16777216 + b.1 * 65536 + d.1 * 256) (by omega) (by omega), aX (by omega) (by omega)]
  omega
theorem uM {code : List Int} (h : code.length ≤ 1048576) : Oc (Z0h code) (fun c => Cu c) := by
  unfold Z0h
  refine Oc.bind (P := fun _ => True) ?_ (fun e _ => Oc.mk ⟨h, Int.le_refl 0⟩)
  refine Oc.loop (fun k (s : Int × Int) => 0 ≤ s.2 ∧ (k : Int) = 2000000 - s.2) (k := 2000000) ?_ ⟨Int.le_refl 0, rfl⟩
  rintro k ⟨x, i⟩ ⟨a, h1⟩
  simp only at a h1
  show Oc (Z0h_L1 code x i) _
  unfold Z0h_L1
  refine Oc.ite (fun b => ?_) (fun _ => Oc.mk trivial)
  simp only [Bool.and_eq_true, decide_eq_true_eq] at b
  refine Oc.gd ⟨a, b.1⟩ (Oc.mk ⟨k - 1, ?_, ?_, ?_⟩)
  · omega
  · show 0 ≤ aG (i + 1)
    rw [aX (by omega) (by omega)]; omega
  · show ((k - 1 : Nat) : Int) = 2000000 - aG (i + 1)
    rw [aX (by omega) (by omega)]; omega
theorem lr {c : l1Cur} {l : List Int} (h : Cu c) (e : 0 < l.length) : Oc (Z10 c l) (fun r => r.1 ∈ l ∧ Cu r.2) := by
  unfold Z10
  refine (dI h (by omega)).bind fun r a => Oc.gd a.1 (Oc.mk ⟨?_, a.2⟩)
  obtain ⟨k, b⟩ := Int.eq_ofNat_of_zero_le a.1.1
  show ix l r.1 ∈ l
  rw [b]; exact bJ (by omega)
theorem jI {c : l1Cur} {n : Int} (h : Cu c) (a : 0 < n) : Oc (Z0u c n) (fun r => Cu r.2) := by
  unfold Z0u
  exact (dI h a).bind fun r b => Oc.mk b.2
theorem mh (a : Int) : ∀ (m : Nat) (n : Int), 0 ≤ n → n < 2 ^ m → m ≤ 62 → ∀ k : Nat, m + 1 ≤ k → Oc (Zs_R k a n) (fun _ => True)
  | 0, n, h0, h1, _, 0, hk => absurd hk (by omega)
  | 0, n, h0, h1, _, k + 1, hk => by
    have : n = 0 := by omega
    subst this
    exact ⟨1, rfl, trivial⟩
  | m + 1, n, h0, h1, h2, 0, hk => absurd hk (by omega)
  | m + 1, n, h0, h1, h2, k + 1, hk => by
    show Oc (Zs_S (Zs_R k) a n) _
    unfold Zs_S
    have h : (2 : Int) ^ (m + 1) = 2 * 2 ^ m := by rw [Int.pow_succ]; omega
    have i : (2 : Int) ^ m ≤ 2 ^ 62 := by
      have := Nat.pow_le_pow_right (n := 2) (by omega) (show m ≤ 62 by omega)
      exact_mod_cast this
    have e : aG (n.tdiv 2) = n / 2 := by
      rw [Int.tdiv_eq_ediv_of_nonneg h0, aX (by omega) (by omega)]
    refine Oc.ite (fun _ => Oc.mk trivial) fun _ => ?_
    rw [e]
    refine (mh a m (n / 2) (by omega) (by omega) (by omega) k (by omega)).bind fun r _ => ?_
    obtain ⟨y, g, _⟩ := iM r r
    rw [g]
    refine Oc.bind (P := fun _ => True) ⟨y, rfl, trivial⟩ fun z _ => ?_
    refine Oc.ite (fun _ => ?_) (fun _ => Oc.mk trivial)
    obtain ⟨u, b, _⟩ := iM z a
    rw [b]
    exact Oc.mk trivial
theorem s8 (a b : Int) : Oc (Z1j a b) (fun _ => True) := by
  unfold Z1j Z1w Zs
  obtain ⟨m, e, _⟩ := i9 b
  rw [e, Option.bind_some]
  refine Oc.bind (P := fun _ => True) ?_ fun r _ => ?_
  · exact (mh m 31 2147483645 (by omega) (by omega) (by omega) jx (by unfold jx; omega)).bind fun r _ => Oc.mk trivial
  · obtain ⟨u, g, _⟩ := iM a r
    rw [g]
    exact Oc.mk trivial
theorem qH (a b : Int) : Oc (Z1i a b) (fun _ => True) := by
  unfold Z1i
  obtain ⟨m, e, _⟩ := i9 a
  obtain ⟨n, g, _⟩ := i9 b
  rw [e, Option.bind_some, g, Option.bind_some]
  obtain ⟨u, h, _⟩ := i9 (aG (m - n))
  rw [h]
  exact Oc.mk trivial
theorem uN {c : l1Cur} (h : Cu c) : Oc (Z1k c) (fun r => Cu r.2) := by
  unfold Z1k
  refine (dI h (by omega)).bind fun r g => ?_
  refine Oc.ite (fun _ => ?_) fun _ => Oc.ite (fun _ => ?_) fun _ => Oc.ite (fun _ => ?_) fun _ => Oc.ite (fun _ => ?_) fun _ => ?_
  · exact (dI g.2 (by omega)).bind fun a e => (dI e.2 (by omega)).bind fun b i => (s8 _ _).bind fun _ _ => Oc.mk i.2
  · exact (dI g.2 (by omega)).bind fun a e => (qH _ _).bind fun _ _ => Oc.mk e.2
  · exact (dI g.2 (by omega)).bind fun a e => Oc.mk e.2
  · exact (lr g.2 (by simp)).bind fun a e => Oc.mk e.2
  · exact (dI g.2 (by omega)).bind fun a e => Oc.mk e.2
def Sm (t : Tensor) : Prop := t.Dims.length ≤ 10 ∧ t.Data.length ≤ 5000
theorem s9 {ds : List Int} (h : ds.length ≤ 8) : Oc (Z0m ds) (fun t => t.Dims.length ≤ 8 ∧ t.Data.length ≤ 4096) := by
  unfold Z0m
  rw [io (by omega), Option.bind_some, gS (by unfold cP; omega), Option.bind_some]
  have a : 0 ≤ (if SZ ds then pr ds else 0) ∧ (if SZ ds then pr ds else 0) ≤ 4096 := by
    by_cases c : SZ ds
    · rw [if_pos c]; have := c.pos; have := c.2; omega
    · rw [if_neg c]; omega
  refine Oc.gd (by omega) (Oc.mk ⟨h, ?_⟩)
  simp only [List.length_replicate]
  omega
theorem kE {c : l1Cur} {ds : List Int} (h : Cu c) (G : ds.length ≤ 8) : Oc (Zp c ds) (fun r => (r.1.Dims.length ≤ 8 ∧ r.1.Data.length ≤ 4096) ∧ Cu r.2) := by
  unfold Zp
  refine (s9 G).bind fun t L => ?_
  refine Oc.bind (P := fun e : List Int × List Int × Int × Int => e.1.length = t.Data.length ∧ Cu ⟨e.2.1, e.2.2.1, e.2.2.2⟩) ?_ (fun e I => Oc.mk ⟨⟨L.1, by show e.1.length ≤ 4096; omega⟩, I.2⟩)
  refine Oc.loop (fun k (s : List Int × Int × Int × List Int × Int) => 0 ≤ s.2.2.2.2 ∧ (k : Int) = 10000 - s.2.2.2.2 ∧ s.2.2.2.1.length = t.Data.length ∧ Cu ⟨s.1, s.2.1, s.2.2.1⟩) (k := 10000) ?_ ⟨Int.le_refl 0, rfl, rfl, h⟩
  rintro k ⟨b, i, q, d, x⟩ ⟨u, h1, h2, j⟩
  simp only at u h1 h2 j
  show Oc (Zp_L1 t b i q d x) _
  unfold Zp_L1
  refine Oc.ite (fun D => ?_) (fun _ => Oc.mk ⟨h2, j⟩)
  simp only [decide_eq_true_eq] at D
  refine (dI j (by omega)).bind fun a F => Oc.gd ⟨u, D⟩ ((jI F.2 (by omega)).bind fun g E => ?_)
  have hw : aG (x + 1) = x + 1 := aX (by omega) (by omega)
  refine Oc.ite (fun _ => ?_) (fun _ => ?_)
  · refine (uN E).bind fun m J => ?_
    unfold Zp_J2
    exact Oc.mk ⟨k - 1, by omega, by show 0 ≤ aG (x + 1); omega, by show ((k - 1 : Nat) : Int) = 10000 - aG (x + 1); omega, by simpa using h2, J⟩
  · unfold Zp_J2
    exact Oc.mk ⟨k - 1, by omega, by show 0 ≤ aG (x + 1); omega, by show ((k - 1 : Nat) : Int) = 10000 - aG (x + 1); omega, by simpa using h2, E⟩
theorem mi {c : l1Cur} {t : Tensor} (h : Cu c) (u : t.Dims.length ≤ 8 ∧ t.Data.length ≤ 4096) : Oc (Z09 c t) (fun r => Sm r.1 ∧ Cu r.2) := by
  unfold Z09 Z09_J1
  have i : Sm t := ⟨by omega, by omega⟩
  refine (jI h (by omega)).bind fun g m => Oc.ite (fun _ => ?_) (fun _ => Oc.mk ⟨i, m⟩)
  refine (dI m (by omega)).bind fun a e => ?_
  refine Oc.ite (fun _ => Oc.gd (by simp; omega) (Oc.mk ⟨⟨by show t.Dims.length ≤ 10; omega, by simp; omega⟩, e.2⟩)) fun _ => Oc.ite (fun _ => ?_) fun _ => Oc.ite (fun _ => Oc.gd (by simp; omega) (Oc.mk ⟨⟨by simp; omega, by show t.Data.length ≤ 5000; omega⟩, e.2⟩)) fun _ => Oc.ite (fun _ => Oc.mk ⟨⟨by simp, by simp⟩, e.2⟩) fun _ => Oc.mk ⟨i, e.2⟩
  refine Oc.ite (fun j => ?_) (fun _ => Oc.mk ⟨i, e.2⟩)
  simp only [decide_eq_true_eq] at j
  exact (lr e.2 (by simp)).bind fun b q => Oc.gd ⟨by omega, j⟩ (Oc.mk ⟨⟨by show t.Dims.length ≤ 10; omega, by simp; omega⟩, q.2⟩)
theorem mj {code : List Int} (h : code.length ≤ 1048576) : Oc (Zz code) (fun r => Sm r.1 ∧ Sm r.2.1) := by
  unfold Zz
  refine (uM h).bind fun c1 g1 => (dI g1 (by omega)).bind fun c2 T => (dI T.2 (by omega)).bind fun c3 U => (dI U.2 (by omega)).bind fun c4 g4 => (dI g4.2 (by omega)).bind fun c5 g5 => (dI g5.2 (by omega)).bind fun c6 g6 => ?_
  refine (kE g6.2 (by simp)).bind fun t I => (mi I.2 I.1).bind fun u J => ?_
  refine (dI J.2 (by omega)).bind fun c7 g7 => (dI g7.2 (by omega)).bind fun c8 g8 => (dI g8.2 (by omega)).bind fun c9 g9 => ?_
  refine (kE g9.2 (by simp)).bind fun t2 e => (mi e.2 e.1).bind fun L j => ?_
  refine (jI j.2 (by omega)).bind fun M a => ?_
  have G : ∀ {b i q g p}, Cu ⟨b, i, q⟩ → Oc (Zz_J2 u L g b i q p) (fun r => Sm r.1 ∧ Sm r.2.1) := by
    intro b i q g p m
    unfold Zz_J2
    exact (dI m (by omega)).bind fun d1 D => (dI D.2 (by omega)).bind fun d2 E => Oc.mk ⟨J.1, j.1⟩
  have F : ∀ {b i q g}, Cu ⟨b, i, q⟩ → Oc (Zz_J1 u L b i q g) (fun r => Sm r.1 ∧ Sm r.2.1) := by
    intro b i q g m
    unfold Zz_J1
    exact (dI m (by omega)).bind fun d1 D => (jI D.2 (by omega)).bind fun d2 E => Oc.ite (fun _ => (lr E (by simp)).bind fun d3 k3 => G k3.2) (fun _ => G E)
  exact Oc.ite (fun _ => F a) (fun _ => F a)
section
variable {N C H W O A B st pad : Int}
theorem n' {x w : Tensor} (tx : TT x) (tw : TT w) (ex : x.Dims = [N, C, H, W]) (ew : w.Dims = [O, C, A, B]) : ∃ t1 F v0 v1 v2 u s1 s2 u',
    (Z0e x 2 pad pad 0 = some t1 ∧ Z0e t1 3 pad pad 0 = some F ∧ Z14 F.Dims = some v0 ∧ Z0o v0 2 A st = some v1 ∧ Z0o v1 3 B st = some v2 ∧ Z0n F v2 = some u) ∧
    (Zt x 2 pad pad 0 = some s1 ∧ Zt s1 3 pad pad 0 = some s2 ∧ Z01 s2.Dims = some v0 ∧ Zn v0 2 A st = some v1 ∧ Zn v1 3 B st = some v2 ∧ Zx s2 v2 = some u') ∧
    ((u = tE ∧ u' = tE) ∨ (TT u ∧ TT u' ∧ u'.Dims = u.Dims ∧ u.Dims = [N, C, oN H A pad st, oN W B pad st, A, B] ∧
      ∀ n k i j a b, IV [N, C, oN H A pad st, oN W B pad st, A, B] [n, k, i, j, a, b] → ix u.Data (fA [N, C, oN H A pad st, oN W B pad st, A, B] [n, k, i, j, a, b]) = if (0 ≤ i * st - pad + a ∧ i * st - pad + a < H) ∧ 0 ≤ j * st - pad + b ∧ j * st - pad + b < W then ix x.Data (fA [N, C, H, W] [n, k, i * st - pad + a, j * st - pad + b]) else 0)) := by
  have hN : eL ([] : List Int) := by decide
  have gN := pI hN
  have sN : ∀ s ∈ (whole []).Strides, 0 ≤ s := fun s hs => by cases hs
  have wN : ¬ (gU (whole []).Dims 2 A st ∧ eL (dE (whole []) 2 A st).Dims) := fun q => by
    have : (2 : Int) < (([] : List Int).length : Int) := q.1.2.1
    simp at this
  have tb : Z14 tE.Dims = some (whole []) ∧ Z0o (whole []) 2 A st = some eX ∧ Z01 tE.Dims = some (whole []) ∧ Zn (whole []) 2 A st = some eX := by
    refine ⟨jC hN, ?_, jB hN, ?_⟩
    · rw [gy gN sN, if_neg wN]
    · rw [gx gN sN, if_neg wN]
  obtain ⟨J, L, M, T⟩ := tb
  have q1 := sJ tx (a := 2) (b := pad) (f := pad) (g := 0)
  rw [ex] at q1
  by_cases P1 : hZ [N, C, H, W] 2 pad pad 0
  · have e1 : fb [N, C, H, W] 2 pad pad 0 = H + 2 * pad := by
      show pad + H + (H - 1) * 0 + pad = _
      omega
    have e2 : fb [N, C, H + 2 * pad, W] 3 pad pad 0 = W + 2 * pad := by
      show pad + W + (W - 1) * 0 + pad = _
      omega
    obtain ⟨d1, r1, r2⟩ := q1.1 P1
    rw [e1] at r1 r2
    have q2 := sJ (t := ⟨[N, C, H + 2 * pad, W], d1⟩) r2 (a := 3) (b := pad) (f := pad) (g := 0)
    dsimp only at q2
    by_cases P2 : hZ [N, C, H + 2 * pad, W] 3 pad pad 0
    · obtain ⟨t1, F, h, a2, a3, a4, a5, a6, a7⟩ := uK tx ex P1 P2
      obtain ⟨d2, r3, r4⟩ := q2.1 P2
      rw [e2] at r3 r4
      have D : TT ⟨[N, C, H + 2 * pad, W + 2 * pad], d2⟩ := r4
      have e : eL [N, C, H + 2 * pad, W + 2 * pad] := a5 ▸ a6.d
      have U := pI e
      have E : ∀ s ∈ (whole [N, C, H + 2 * pad, W + 2 * pad]).Strides, 0 ≤ s := fun s hs => (gv e.2 s hs).1
      by_cases W1 : gU (whole [N, C, H + 2 * pad, W + 2 * pad]).Dims 2 A st ∧ eL (dE (whole [N, C, H + 2 * pad, W + 2 * pad]) 2 A st).Dims
      · have G := gy U E (a := 2) (sz := A) (st := st)
        have I := gx U E (a := 2) (sz := A) (st := st)
        rw [if_pos W1] at G I
        have g1 := iS U E W1.1 W1.2
        have s1 : ∀ s ∈ (dE (whole [N, C, H + 2 * pad, W + 2 * pad]) 2 A st).Strides, 0 ≤ s := by
          intro s hs
          have hm : s ∈ (g0 [N, C, H + 2 * pad, W + 2 * pad]).set 2 (if fD [N, C, H + 2 * pad, W + 2 * pad] 2 A st = 1 then 0 else ix (g0 [N, C, H + 2 * pad, W + 2 * pad]) 2 * st) ++ [if A = 1 then 0 else ix (g0 [N, C, H + 2 * pad, W + 2 * pad]) 2] := hs
          have h2 : 0 ≤ ix (g0 [N, C, H + 2 * pad, W + 2 * pad]) 2 := E _ (bJ (xs := g0 [N, C, H + 2 * pad, W + 2 * pad]) (k := 2) (by rw [fg]; simp))
          have a9 := W1.1.2.2.2.1
          rcases List.mem_append.1 hm with hm | hm
          · exact f8 (P := fun s => 0 ≤ s) E (by
              by_cases c : fD [N, C, H + 2 * pad, W + 2 * pad] 2 A st = 1
              · rw [if_pos c]; exact Int.le_refl 0
              · rw [if_neg c]; exact Int.mul_nonneg h2 (by omega)) s hm
          · rcases List.mem_singleton.1 hm with rfl
            by_cases c : A = 1
            · rw [if_pos c]; exact Int.le_refl 0
            · rw [if_neg c]; exact h2
        have z3 := gy g1 s1 (a := 3) (sz := B) (st := st)
        have z4 := gx g1 s1 (a := 3) (sz := B) (st := st)
        by_cases W2 : gU (dE (whole [N, C, H + 2 * pad, W + 2 * pad]) 2 A st).Dims 3 B st ∧ eL (dE (dE (whole [N, C, H + 2 * pad, W + 2 * pad]) 2 A st) 3 B st).Dims
        · rw [if_pos W2] at z3 z4
          obtain ⟨_, g2, _, hb, X, y1, y2, y3⟩ := uL a6 a5 W1.1 W1.2 W2.1 W2.2
          obtain ⟨X', y4, y5⟩ := u7 (t := ⟨[N, C, H + 2 * pad, W + 2 * pad], d2⟩) D g2 (by rw [hb, a5])
          have o1 : (H + 2 * pad - A) / st + 1 = oN H A pad st := by
            unfold oN
            rw [show H + 2 * pad - (A - 1) - 1 = H + 2 * pad - A by omega]
          have o2 : (W + 2 * pad - B) / st + 1 = oN W B pad st := by
            unfold oN
            rw [show W + 2 * pad - (B - 1) - 1 = W + 2 * pad - B by omega]
          have aa : TOk [N, C, (H + 2 * pad - A) / st + 1, (W + 2 * pad - B) / st + 1, A, B] X' := y5
          refine ⟨t1, F, whole [N, C, H + 2 * pad, W + 2 * pad], _, _, _, _, _, _, ⟨h, a4, by rw [a5]; exact jC e, G, z3, y1⟩, ⟨r1, r3, jB e, I, z4, y4⟩, .inr ⟨y2, y5, rfl, ?_, ?_⟩⟩
          · rw [o1, o2]
          · rw [o1, o2] at y3
            rw [o1, o2]
            intro n k i j a b hi
            obtain ⟨m1, m2⟩ := y3 n k i j a b hi
            refine m1.trans ((a7 _ _ _ _ m2).trans ?_)
            rw [show i * st + a - pad = i * st - pad + a by omega, show j * st + b - pad = j * st - pad + b by omega]
        · rw [if_neg W2] at z3 z4
          exact ⟨t1, F, whole [N, C, H + 2 * pad, W + 2 * pad], _, _, _, _, _, _, ⟨h, a4, by rw [a5]; exact jC e, G, z3, nR a6⟩, ⟨r1, r3, jB e, I, z4, nA D⟩, .inl ⟨rfl, rfl⟩⟩
      · have G := gy U E (a := 2) (sz := A) (st := st)
        have I := gx U E (a := 2) (sz := A) (st := st)
        rw [if_neg W1] at G I
        exact ⟨t1, F, whole [N, C, H + 2 * pad, W + 2 * pad], _, _, _, _, _, _, ⟨h, a4, by rw [a5]; exact jC e, G, n7 _ _ _, nR a6⟩, ⟨r1, r3, jB e, I, n8 _ _ _, nA D⟩, .inl ⟨rfl, rfl⟩⟩
    · obtain ⟨x1, h, a2, _⟩ := qt (j := 2) (b := pad) (f := pad) (g := 0) tx (by rw [ex]; exact P1)
      have a0 : Z0e x 2 pad pad 0 = some ⟨[N, C, H + 2 * pad, W], x1⟩ := by
        rw [ex] at h
        have m : fb [N, C, H, W] ((2 : Nat) : Int) pad pad 0 = H + 2 * pad := e1
        rw [m] at h
        exact h
      have a8 : TT ⟨[N, C, H + 2 * pad, W], x1⟩ := by
        rw [ex] at a2
        have m : fb [N, C, H, W] ((2 : Nat) : Int) pad pad 0 = H + 2 * pad := e1
        rw [m] at a2
        exact a2
      exact ⟨_, tE, whole [], _, _, _, _, tE, _, ⟨a0, nW a8 P2, J, L, n7 _ _ _, nY _⟩, ⟨r1, q2.2 P2, M, T, n8 _ _ _, nX _⟩, .inl ⟨rfl, rfl⟩⟩
  · exact ⟨tE, tE, whole [], _, _, _, tE, tE, _, ⟨nW tx (by rw [ex]; exact P1), uE _ _ _ _, J, L, n7 _ _ _, nY _⟩, ⟨q1.2 P1, uF _ _ _ _, M, T, n8 _ _ _, nX _⟩, .inl ⟨rfl, rfl⟩⟩
end
def xY (xs : List Int) : Prop := xs.length ≤ maxLen
theorem jt (code : List Int) : Z1u code = some true := by
  unfold Z1u Z1v
  rw [Option.bind_some]
  by_cases hc : (code.length : Int) > 1048576
  · rw [if_pos (by simpa using hc)]
  rw [if_neg (by simpa using hc)]
  obtain ⟨⟨x, w, st, pad, g1, g2⟩, hr, sx, sw⟩ := mj (code := code) (by omega)
  dsimp only at sx sw
  rw [hr, Option.bind_some, qB, Option.bind_some, qD, Option.bind_some, qz (by simp [cP]), Option.bind_some, if_neg (by simp)]
  dsimp only
  have bx : x.Dims.length < cP ∧ x.Data.length < cP := by unfold cP; unfold Sm at sx; omega
  have bw : w.Dims.length < cP ∧ w.Data.length < cP := by unfold cP; unfold Sm at sw; omega
  rcases uC bx bw st pad with ⟨⟨N, C, H, W, O, A, B, J, I, ex, i, ok⟩, d, h1, h2⟩ | ⟨h1, h2⟩
  · have n0 : ix x.Dims 0 = N := by rw [ex]; rfl
    have n1 : ix w.Dims 0 = O := by rw [i]; rfl
    have n2 : ix x.Dims 2 = H := by rw [ex]; rfl
    have n3 : ix x.Dims 3 = W := by rw [ex]; rfl
    have n4 : ix w.Dims 2 = A := by rw [i]; rfl
    have n5 : ix w.Dims 3 = B := by rw [i]; rfl
    rw [n0, n1, n2, n3, n4, n5] at h1 h2
    have hv := qy J I ex i ok
    have hd := ok.2.2.2.2.2.1
    have hp := hd.2.pos
    have a7 : pr [N, O, oN H A pad st, oN W B pad st] ≤ 4096 := hd.2.2
    have hl : ((rP [N, O, oN H A pad st, oN W B pad st] (ux N C H W O A B st pad x.Data w.Data)).length : Int) = pr [N, O, oN H A pad st, oN W B pad st] := by
      rw [ll]; omega
    have U : (w.Dims.length : Int) = 4 := by rw [i]; rfl
    obtain ⟨t1, t2, v0, v1, v2, u, s1, s2, j, ⟨a1, a2, a3, a4, a5, a6⟩, ⟨b1, b2, b3, b4, b5, b6⟩, hh⟩ := n' (st := st) (pad := pad) J I ex i
    rw [hv, Option.bind_some, h1, Option.bind_some]
    dsimp only
    rw [if_neg (by rw [hl, h2]; simp), if_neg (by rw [hl]; simp; omega), n4, n5, U, a1, Option.bind_some, a2, Option.bind_some, a3, Option.bind_some, if_pos (by omega), a4, Option.bind_some, if_pos (by omega), a5, Option.bind_some, a6, Option.bind_some]
    suffices hs : ∃ a b, Z0q gD [u, w] = some a ∧ Z4 gD [j, w] = some b ∧ u.Data.length = j.Data.length ∧ a.Data.length = b.Data.length ∧
        ((u.Data.length ≠ 0 ∧ a.Data.length ≠ 0) → a = ⟨[N, O, oN H A pad st, oN W B pad st], rP [N, O, oN H A pad st, oN W B pad st] (ux N C H W O A B st pad x.Data w.Data)⟩) by
      obtain ⟨a, b, F, T, k3, k4, k5⟩ := hs
      rw [F, Option.bind_some, b1, Option.bind_some, b2, Option.bind_some, b3, Option.bind_some, b4, Option.bind_some, b5, Option.bind_some, b6, Option.bind_some]
      rw [show ((u.Data.length : Int) != (j.Data.length : Int)) = false by rw [k3]; simp]
      simp only [Bool.not_false, fh]
      rw [T, Option.bind_some, show ((a.Data.length : Int) != (b.Data.length : Int)) = false by rw [k4]; simp]
      simp only [Bool.or_self, Bool.false_eq_true, if_false]
      by_cases c : u.Data.length ≠ 0 ∧ a.Data.length ≠ 0
      · have e1 : ((u.Data.length : Int) == 0) = false := by simp; intro q; exact c.1 (by rw [q]; rfl)
        have e2 : ((a.Data.length : Int) == 0) = false := by simp; intro q; exact c.2 (by rw [q]; rfl)
        rw [e1, e2]
        simp only [Bool.or_self, Bool.not_false, fh]
        rw [k5 c, qz ⟨by simp [cP], by dsimp only; unfold cP; omega⟩]
        rfl
      · have e : (((u.Data.length : Int) == 0) || ((a.Data.length : Int) == 0)) = true := by
          by_cases c1 : u.Data.length = 0
          · simp [c1]
          · have : a.Data.length = 0 := by
              by_cases h : a.Data.length = 0
              · exact h
              · exact absurd ⟨c1, h⟩ c
            simp [this]
        rw [e]
        rfl
    rcases hh with ⟨rfl, rfl⟩ | ⟨tu, G, D, eu, hu⟩
    · exact ⟨_, _, uG bw, uH w, rfl, rfl, fun q => absurd rfl q.1⟩
    · have lu : u.Data.length = j.Data.length := by
        have q1 := tu.l
        have q2 := G.l
        rw [D] at q2
        omega
      have g : ∀ t ∈ [u, w], TT t := fun t g => by
        rcases List.mem_cons.1 g with rfl | g
        · exact tu
        · rcases List.mem_singleton.1 g with rfl
          exact I
      have E : ∀ t ∈ [j, w], TT t := fun t g => by
        rcases List.mem_cons.1 g with rfl | g
        · exact G
        · rcases List.mem_singleton.1 g with rfl
          exact I
      have L : [j, w].map Tensor.Dims = [u.Dims, w.Dims] := by rw [← D]; rfl
      have a0 : [u, w].map Tensor.Dims = [u.Dims, w.Dims] := rfl
      by_cases co : ∃ s, li gD [u.Dims, w.Dims] s
      · obtain ⟨F, T⟩ := xP (X := []) tu eu I i (xd := x.Data) (wd := []) (H := H) (W := W) (st := st) (pad := pad) (fun n k y z hi => by
          have M := fp (ex ▸ J.d : eL [N, C, H, W]).2.1 hi
          obtain ⟨q, hq⟩ := Int.eq_ofNat_of_zero_le M.1
          have := J.l
          rw [ex] at this
          rw [hq]
          exact J.x _ (bJ (by omega))) hu co
        rcases kf (f := gD) (by decide) E (by simp) with ⟨s, c1, d', h, m⟩ | ⟨no, _⟩
        · rw [L] at c1
          rw [T s c1] at h m
          refine ⟨_, _, F, h, lu, ?_, fun _ => rfl⟩
          have := m.l
          dsimp only
          omega
        · rw [L] at no
          exact absurd co no
      · rcases kf (f := gD) (by decide) E (by simp) with ⟨s, c1, d', h, m⟩ | ⟨_, h⟩
        · rw [L] at c1
          exact absurd ⟨s, c1⟩ co
        · rcases sU (f := gD) (ts := [u, w]) (by decide) g with ⟨s, r, c1, _⟩ | ⟨_, r, m⟩
          · exact absurd ⟨s, c1⟩ co
          · have F : Z0q gD [u, w] = some tE := by
              unfold Z0q
              rw [ln (by simp) g, Option.bind_some, if_neg (by simp), kj (by simp), Option.bind_some, m]
              rfl
            exact ⟨_, _, F, h, lu, rfl, fun q => absurd rfl q.2⟩
  · rw [h1, Option.bind_some, h2, Option.bind_some]
    rfl
end Go.Proofs.YthfhllekobdelaaGreatDoor
