import Derived.Test.YthfhllekobdelaaGreatDoorCV1
set_option linter.unusedVariables false
set_option linter.unusedSimpArgs false
namespace Go.Proofs.YthfhllekobdelaaGreatDoor
open Go Go.Pg
theorem wC {xs : List Int} (h : xs.length = 4) : ∃ a b c d, xs = [a, b, c, d] := by
  match xs, h with
  | [a, b, c, d], _ => exact ⟨a, b, c, d, rfl⟩
theorem uA {n size st : Int} (a : 0 ≤ n ∧ n ≤ 65536) (b : 1 ≤ size ∧ size ≤ 65536) (e : 1 ≤ st) : Z13 n size st = some (if 0 ≤ n - size then (n - size) / st + 1 else 0) := by
  unfold Z13
  by_cases c : 0 ≤ n - size
  · have g := Int.ediv_nonneg c (show 0 ≤ st by omega)
    have h : (n - size) / st ≤ n - size := Int.ediv_le_self _ c
    rw [if_neg (by simp; omega), if_pos (by omega), if_pos c, aX (n := n - size) (by omega) (by omega), Int.tdiv_eq_ediv_of_nonneg c, aX (n := (n - size) / st) (by omega) (by omega), aX (by omega) (by omega)]
  · rw [if_pos (by simp; omega), if_neg c]
theorem uB (x l h : Int) : Z0v x l h = some (decide (l ≤ x ∧ x ≤ h)) := by
  unfold Z0v
  congr 1
  rw [Bool.eq_iff_iff]
  simp
theorem iU {α : Type} [Inhabited α] (x : Option α) : cT false x = some default := rfl
theorem fh {α : Type} [Inhabited α] (x : Option α) : cT true x = x := rfl
def CV (x w : Tensor) (st pad : Int) : Prop := ∃ N C H W O A B, TT x ∧ TT w ∧ x.Dims = [N, C, H, W] ∧ w.Dims = [O, C, A, B] ∧ fT N C H W O C A B st pad
theorem uC {x w : Tensor} (bx : x.Dims.length < cP ∧ x.Data.length < cP) (L : w.Dims.length < cP ∧ w.Data.length < cP) (st pad : Int) :
    (CV x w st pad ∧ ∃ d, Ze x w st pad 1 1 = some ⟨[ix x.Dims 0, ix w.Dims 0, oN (ix x.Dims 2) (ix w.Dims 2) pad st, oN (ix x.Dims 3) (ix w.Dims 3) pad st], d⟩ ∧ (d.length : Int) = pr [ix x.Dims 0, ix w.Dims 0, oN (ix x.Dims 2) (ix w.Dims 2) pad st, oN (ix x.Dims 3) (ix w.Dims 3) pad st]) ∨
    (Z3 x w st pad 1 1 = some ⟨[], []⟩ ∧ Ze x w st pad 1 1 = some ⟨[], []⟩) := by
  by_cases g : TT x ∧ TT w
  · obtain ⟨j, i⟩ := g
    have m : Zq [x, w] = some true := ln (by simp) fun t h => by
      rcases List.mem_cons.1 h with rfl | h
      · exact j
      · rcases List.mem_singleton.1 h with rfl
        exact i
    by_cases g4 : x.Dims.length = 4 ∧ w.Dims.length = 4
    · obtain ⟨N, C, H, W, ex⟩ := wC g4.1
      obtain ⟨O, K, A, B, b⟩ := wC g4.2
      have hx : eL [N, C, H, W] := ex ▸ j.d
      have hw : eL [O, K, A, B] := b ▸ i.d
      obtain ⟨r, hr, a5⟩ := mf (N := N) (C := C) (H := H) (W := W) (O := O) (K := K) (A := A) (B := B) (st := st) (pad := pad) hx hw
      have F : ix x.Dims 0 = N := by rw [ex]; rfl
      have a4 : ix x.Dims 1 = C := by rw [ex]; rfl
      have G : ix x.Dims 2 = H := by rw [ex]; rfl
      have I : ix x.Dims 3 = W := by rw [ex]; rfl
      have u : ix w.Dims 0 = O := by rw [b]; rfl
      have a3 : ix w.Dims 1 = K := by rw [b]; rfl
      have D : ix w.Dims 2 = A := by rw [b]; rfl
      have E : ix w.Dims 3 = B := by rw [b]; rfl
      have a2 : (x.Dims.length : Int) = 4 := by rw [g4.1]; rfl
      have a1 : (w.Dims.length : Int) = 4 := by rw [g4.2]; rfl
      have a0 : ¬ fT N C H W O K A B st pad → Z3 x w st pad 1 1 = some ⟨[], []⟩ := fun no => by
        unfold Z3
        rw [m, Option.bind_some, if_neg (by simp), ex, b, hr, Option.bind_some, decide_eq_false no]
        rfl
      have mx := fun d (T : d ∈ [N, C, H, W]) => hx.2.mem T
      have J := fun d (T : d ∈ [O, K, A, B]) => hw.2.mem T
      have h3 := mx H (by simp)
      have h4 := mx W (by simp)
      have h5 := J O (by simp)
      have h6 := J K (by simp)
      have h7 := J A (by simp)
      have h8 := J B (by simp)
      have sp : Ze x w st pad 1 1 = if fT N C H W O K A B st pad then (bC (fun s : List Int × Int => Ze_L1 x w st pad 1 1 (oN H A pad st) (oN W B pad st) ⟨[N, O, oN H A pad st, oN W B pad st], List.replicate (pr [N, O, oN H A pad st, oN W B pad st]).toNat 0⟩ s.1 s.2) (List.replicate (pr [N, O, oN H A pad st, oN W B pad st]).toNat 0, 0)).bind (Ze_J3 ⟨[N, O, oN H A pad st, oN W B pad st], List.replicate (pr [N, O, oN H A pad st, oN W B pad st]).toNat 0⟩) else some ⟨[], []⟩ := by
        unfold Ze
        simp only [uB, F, a4, G, I, u, a3, D, E, a2, a1]
        rw [m8 j, m8 i]
        have d1 : decide ((1 : Int) ≤ 1 ∧ (1 : Int) ≤ 4096) = true := by decide
        have d4 : ((4 : Int) != 4) = false := by decide
        simp only [d1, d4, Option.bind_some, Bool.not_true, Bool.not_false, Bool.or_false, Bool.false_or, fh]
        by_cases g1 : 1 ≤ st ∧ st ≤ 4096
        · simp only [decide_eq_true g1, Bool.not_true, Bool.not_false, Bool.or_false, fh, Option.bind_some]
          by_cases g2 : 0 ≤ pad ∧ pad ≤ 4096
          · simp only [decide_eq_true g2, Bool.not_true, Bool.not_false, Bool.or_false, fh, Option.bind_some]
            rw [if_neg (by simp), if_pos (by omega), if_pos (by omega), if_pos (by omega), Int.mul_one, aX (n := K) (by omega) (by omega), if_pos (fun _ => by omega)]
            have et : (O.tmod 1 != 0) = false := by simp
            rw [et, Bool.or_false]
            by_cases k1 : C = K
            · rw [if_neg (by simp [k1]), if_pos (by omega), if_pos (by omega)]
              have es : ∀ H A : Int, 1 ≤ H ∧ H ≤ 4096 → 1 ≤ A ∧ A ≤ 4096 → Z13 (aG (H + aG (2 * pad))) (aG (aG (1 * aG (A - 1)) + 1)) st = some (if 0 ≤ H + 2 * pad - (A - 1) - 1 then oN H A pad st else 0) := by
                intro H A hH hA
                rw [aX (n := 2 * pad) (by omega) (by omega), aX (n := H + 2 * pad) (by omega) (by omega), aX (n := A - 1) (by omega) (by omega), Int.one_mul, aX (n := A - 1) (by omega) (by omega), aX (n := A - 1 + 1) (by omega) (by omega), uA (by omega) (by omega) g1.1]
                have e : H + 2 * pad - (A - 1 + 1) = H + 2 * pad - (A - 1) - 1 := by omega
                rw [e]
                rfl
              rw [es H A h3 h7, Option.bind_some, if_pos (by omega), if_pos (by omega), es W B h4 h8, Option.bind_some, if_pos (by omega)]
              rw [gT (by simp [cP]), Option.bind_some]
              by_cases k2 : 0 ≤ H + 2 * pad - (A - 1) - 1
              · by_cases k3 : 0 ≤ W + 2 * pad - (B - 1) - 1
                · rw [if_pos k2, if_pos k3]
                  by_cases k4 : eL [N, O, oN H A pad st, oN W B pad st]
                  · rw [decide_eq_true k4]
                    simp only [Bool.not_true, Bool.not_false, fh, Bool.false_or]
                    rw [gS (by simp [cP]), if_pos k4.2, Option.bind_some]
                    have hp := k4.2.2
                    have U := dJ k4.2.1
                    obtain ⟨p, a⟩ : ∃ p, p = pr [N, O, oN H A pad st, oN W B pad st] := ⟨_, rfl⟩
                    have ei : (fT N C H W O K A B st pad) ↔ p * K * A * B ≤ 65536 := ⟨fun q => by rw [a]; exact q.2.2.2.2.2.2, fun q => ⟨g1, g2, k1, k2, k3, k4, by rw [← a]; exact q⟩⟩
                    rw [← a] at hp U ⊢
                    have m1 := jr (c := 0) (show 0 ≤ p by omega) (show 0 ≤ K by omega) hp h6.2 (by omega)
                    have m2 := jr (c := 0) m1.1 (show 0 ≤ A by omega) m1.2 h7.2 (by omega)
                    have m3 := jr (c := 0) m2.1 (show 0 ≤ B by omega) m2.2 h8.2 (by omega)
                    rw [aX (n := p * K) (by omega) (by omega), aX (n := p * K * A) (by omega) (by omega), aX (n := p * K * A * B) (by omega) (by omega)]
                    by_cases g5 : p * K * A * B ≤ 65536
                    · rw [if_neg (by simp; omega), if_pos (ei.2 g5), pA k4, Option.bind_some, a]
                    · rw [if_pos (by simp; omega), if_neg (fun q => g5 (ei.1 q))]
                  · have no : ¬ fT N C H W O K A B st pad := fun q => k4 q.2.2.2.2.2.1
                    rw [decide_eq_false k4, if_neg no]
                    rfl
                · have no : ¬ fT N C H W O K A B st pad := fun q => k3 q.2.2.2.2.1
                  have nd : ∀ y : Int, ¬ eL [N, O, y, 0] := fun y q => by have := q.2.mem (d := 0) (by simp); omega
                  rw [if_neg k3, decide_eq_false (nd _), if_neg no]
                  rfl
              · have no : ¬ fT N C H W O K A B st pad := fun q => k2 q.2.2.2.1
                have nd : ∀ y : Int, ¬ eL [N, O, 0, y] := fun y q => by have := q.2.mem (d := 0) (by simp); omega
                rw [if_neg k2, decide_eq_false (nd _), if_neg no]
                rfl
            · have no : ¬ fT N C H W O K A B st pad := fun q => k1 q.2.2.1
              rw [if_pos (by simp [k1]), if_neg no]
          · have no : ¬ fT N C H W O K A B st pad := fun q => g2 q.2.1
            simp only [decide_eq_false g2, Bool.not_true, Bool.not_false, Bool.or_true, Bool.true_or, fh, iU, Option.bind_some, if_true]
            rw [if_neg no]
        · have no : ¬ fT N C H W O K A B st pad := fun q => g1 q.1
          simp only [decide_eq_false g1, Bool.not_true, Bool.not_false, Bool.or_true, Bool.true_or, fh, iU, Option.bind_some, if_true]
          rw [if_neg no]
      by_cases ok : fT N C H W O K A B st pad
      · have M := ok.2.2.1
        subst M
        left
        refine ⟨⟨N, C, H, W, O, A, B, j, i, ex, b, ok⟩, ?_⟩
        obtain ⟨d, h1, h2⟩ := s6 (st := st) (pad := pad) j i ex b ok.2.2.2.2.2.1
        rw [sp, if_pos ok, h1, F, G, I, u, D, E]
        have := ok.2.2.2.2.2.1.2.pos
        exact ⟨d, rfl, by rw [h2.1]; omega⟩
      · right
        rw [sp, if_neg ok]
        exact ⟨a0 ok, rfl⟩
    · right
      constructor
      · unfold Z3
        obtain ⟨r, hr⟩ := mY (x := x.Dims) (w := w.Dims) g4 st pad
        rw [m, Option.bind_some, if_neg (by simp), hr]
        rfl
      · unfold Ze
        rw [m8 j, m8 i]
        have e : (((x.Dims.length : Int) != 4) || ((w.Dims.length : Int) != 4)) = true := by
          by_cases c : x.Dims.length = 4
          · have : w.Dims.length ≠ 4 := fun q => g4 ⟨c, q⟩
            simp; omega
          · simp; omega
        simp only [Option.bind_some, Bool.not_true, Bool.not_false, fh, Bool.false_or, e, iU, Bool.true_or, if_true]
  · right
    constructor
    · unfold Z3
      rw [qo (by simp) (fun t h => by
        rcases List.mem_cons.1 h with rfl | h
        · exact bx
        · rcases List.mem_singleton.1 h with rfl
          exact L) (fun q => g ⟨q x (by simp), q w (by simp)⟩)]
      rfl
    · unfold Ze
      rw [kV bx.1 bx.2, kV L.1 L.2]
      by_cases c : TOk x.Dims x.Data
      · have c2 : ¬ TOk w.Dims w.Data := fun q => g ⟨c, q⟩
        simp only [decide_eq_true c, decide_eq_false c2, Option.bind_some, Bool.not_true, Bool.not_false, fh, Bool.or_true, iU, Bool.true_or, if_true]
      · simp only [decide_eq_false c, Option.bind_some, Bool.not_true, Bool.not_false, fh, Bool.or_true, iU, Bool.true_or, if_true]
def tE : Tensor := ⟨[], []⟩
theorem nU : ¬ TT tE := fun h => by have := h.l; simp [tE, pr] at this
theorem uD : Zm tE = some false := by
  rw [kV (by simp [tE, cP]) (by simp [tE, cP]), decide_eq_false (show ¬ TOk tE.Dims tE.Data from nU)]
theorem xN : Z0r tE = some false := by
  rw [kW (by simp [tE, cP]) (by simp [tE, cP]), decide_eq_false (show ¬ TOk tE.Dims tE.Data from nU)]
theorem nV {xs : List Int} (h : xs.length < cP) : Z05 xs xs = some true := by
  unfold cP at h
  unfold Z05
  rw [if_neg (by simp), dN (f := fun s : Int => Z05_L1 xs xs s) (r := .inr ()) (s := 0) (fun j => (j : Int)) xs.length (fun j a => by
    simp only [Z05_L1]
    rw [if_pos (by simp; omega), if_pos (by omega)]
    simp only [bne_self_eq_false, Bool.false_eq_true, if_false]
    rw [cR (by unfold cP; omega)]
    try rw [if_pos (by omega)]) (by
    simp only [Z05_L1]
    rw [if_neg (by simp)]) rfl]
  rfl
theorem qz {t : Tensor} (h : t.Dims.length < cP ∧ t.Data.length < cP) : Z12 t t = some true := by
  unfold Z12
  rw [nV h.1, Option.bind_some, fh, nV h.2]
  rfl
theorem nW {t : Tensor} (h : TT t) {a b f g : Int} (no : ¬ hZ t.Dims a b f g) : Z0e t a b f g = some tE := by
  obtain ⟨ds, ps, h1, _⟩ := wu h.d (a := a) (b := b) (f := f) (g := g)
  rw [decide_eq_false no] at h1
  unfold Z0e Z19 Z1c
  rw [qn h, Option.bind_some, if_neg (by simp), h1]
  rfl
theorem uE (a b f g : Int) : Z0e tE a b f g = some tE := by
  unfold Z0e Z19
  rw [xN]
  rfl
theorem uF (a b f g : Int) : Zt tE a b f g = some tE := by
  unfold Zt Z1b
  rw [uD]
  rfl
theorem n7 (a b f : Int) : Z0o eX a b f = some eX := by
  unfold Z0o Z1g eX
  rw [ny]
  rfl
theorem n8 (a b f : Int) : Zn eX a b f = some eX := by
  unfold Zn Z1a eX
  rw [nv]
  rfl
theorem nX (v : View) : Zx tE v = some tE := by
  unfold Zx
  rw [uD]
  rfl
theorem nY (v : View) : Z0n tE v = some tE := qu (by simp [tE, cP]) (by simp [tE, cP]) nU v
theorem kl : parts gD = ([[110, 99, 104, 119, 97, 98], [111, 99, 97, 98]], [110, 111, 104, 119], true) := by decide
theorem uG {w : Tensor} (hw : w.Dims.length < cP ∧ w.Data.length < cP) : Z0q gD [tE, w] = some tE := by
  unfold Z0q
  rw [qo (by simp) (fun t a => by
    rcases List.mem_cons.1 a with rfl | a
    · simp [tE, cP]
    · rcases List.mem_singleton.1 a with rfl
      exact hw) (fun q => nU (q tE (by simp)))]
  rfl
theorem uH (w : Tensor) : Z4 gD [tE, w] = some tE := by
  unfold Z4
  rw [nG (by decide), kl, Option.bind_some, if_neg (by simp)]
  rw [dN (f := fun s : List (List Int) × Int => Z4_L1 [tE, w] s.1 s.2) (r := .inl tE) (s := ([], 0)) (fun j => ([], 0)) 0 (fun j a => absurd a (by omega)) (by
    simp only [Z4_L1]
    have e : (ix [tE, w] 0) = tE := rfl
    rw [if_pos (by simp), if_pos (by simp), e, uD]
    rfl) rfl]
  rfl
theorem qB : Z0i [1, 1, 1, 1] 1 = some ⟨[1, 1, 1, 1], [1]⟩ := by
  have a : eL [1, 1, 1, 1] := by decide
  unfold Z0i
  rw [lq a, Option.bind_some]
  have e : List.replicate (pr [1, 1, 1, 1]).toNat (0 : Int) = [0] := by decide
  rw [e, dN (f := fun s : List Int × Int => Z0i_L1 1 ⟨[1, 1, 1, 1], [0]⟩ s.1 s.2) (r := [1]) (s := ([0], 0)) (fun j => match j with | 0 => ([0], 0) | _ => ([1], 1)) 1 (fun j b => by
    have : j = 0 := by omega
    subst this
    rfl) rfl rfl]
  rfl
theorem qC : TT ⟨[1, 1, 1, 1], [1]⟩ := ⟨by decide, by decide, by decide⟩
theorem qD : Z3 ⟨[1, 1, 1, 1], [1]⟩ ⟨[1, 1, 1, 1], [1]⟩ 1 0 1 1 = some ⟨[1, 1, 1, 1], [1]⟩ := by
  rw [qy (N := 1) (C := 1) (H := 1) (W := 1) (O := 1) (A := 1) (B := 1) qC qC rfl rfl (by decide)]
  rfl
def wI (u : aO) (c : UInt8) : aO := if c ∈ u then u else u ++ [c]
theorem gK {α : Type} [Inhabited α] {g : List α} {j : Nat} (h : j < g.length) : g.take (j + 1) = g.take j ++ [ix g (j : Int)] := by
  rw [List.take_add_one, List.getElem?_eq_getElem h]
  simp [ix, h]
theorem uI {g : aO} {ds : List Int} {s s' : aO × List Int} (h : iq g ds s = some s') : s'.1 = g.foldl wI s.1 := by
  unfold iq at h
  by_cases c : List.length g = ds.length
  · rw [if_pos c] at h
    have := iQ (fun j (z : aO × List Int) => z.1 = (g.take j).foldl wI s.1) (s := s) rfl g.length (fun j z m b i a => by
      rw [gK b, List.foldl_append, ← i]
      unfold ip at a
      by_cases e : lk z.2 (ix g (j : Int)) ≠ 0 ∧ lk z.2 (ix g (j : Int)) ≠ ix ds (j : Int)
      · rw [if_pos e] at a; cases a
      · rw [if_neg e] at a
        cases a
        rfl) h
    rwa [List.take_length] at this
  · rw [if_neg c] at h; cases h
theorem uJ {gs : List aO} {dss : List (List Int)} {s s' : aO × List Int} (h : jp gs dss s = some s') : s'.1 = gs.foldl (fun u g => g.foldl wI u) s.1 := by
  unfold jp at h
  have := iQ (fun j (z : aO × List Int) => z.1 = (gs.take j).foldl (fun u g => g.foldl wI u) s.1) (s := s) rfl gs.length (fun j z i a e b => by
    rw [gK a, List.foldl_append, ← e]
    exact uI b) h
  rwa [List.take_length] at this
theorem xO {dss : List (List Int)} {s : aO × List Int} (h : li gD dss s) : s.1 = [110, 111, 104, 119, 99, 97, 98] := by
  have := uJ h.2.2.1.1
  rw [kl] at this
  rw [this]
  decide
section
variable {N C H W O A B st pad : Int}
theorem uK {x : Tensor} (tx : TT x) (ex : x.Dims = [N, C, H, W]) (p1 : hZ [N, C, H, W] 2 pad pad 0) (p2 : hZ [N, C, H + 2 * pad, W] 3 pad pad 0) :
    ∃ t1 a, Z0e x 2 pad pad 0 = some t1 ∧ t1.Dims = [N, C, H + 2 * pad, W] ∧ TT t1 ∧ Z0e t1 3 pad pad 0 = some a ∧ a.Dims = [N, C, H + 2 * pad, W + 2 * pad] ∧ TT a ∧
      ∀ n k y z, IV [N, C, H + 2 * pad, W + 2 * pad] [n, k, y, z] → ix a.Data (fA [N, C, H + 2 * pad, W + 2 * pad] [n, k, y, z]) = if (0 ≤ y - pad ∧ y - pad < H) ∧ 0 ≤ z - pad ∧ z - pad < W then ix x.Data (fA [N, C, H, W] [n, k, y - pad, z - pad]) else 0 := by
  have G : fb [N, C, H, W] ((2 : Nat) : Int) pad pad 0 = H + 2 * pad := by
    show pad + H + (H - 1) * 0 + pad = _
    omega
  have I : fb [N, C, H + 2 * pad, W] ((3 : Nat) : Int) pad pad 0 = W + 2 * pad := by
    show pad + W + (W - 1) * 0 + pad = _
    omega
  have h1 := qt (j := 2) (b := pad) (f := pad) (g := 0) tx (by rw [ex]; exact p1)
  rw [ex, G] at h1
  obtain ⟨x1, u, e, a3⟩ := h1
  have h2 := qt (t := ⟨[N, C, H + 2 * pad, W], x1⟩) (j := 3) (b := pad) (f := pad) (g := 0) e p2
  dsimp only at h2
  rw [I] at h2
  obtain ⟨x2, D, E, F⟩ := h2
  refine ⟨_, _, u, rfl, e, D, rfl, E, fun n k y z m => ?_⟩
  have i := F [n, k, y, z] m
  obtain ⟨T, U, i3, i4, _⟩ := m
  have f1 : ix [n, k, y, z] ((3 : Nat) : Int) = z := rfl
  have J : ix [N, C, H + 2 * pad, W] ((3 : Nat) : Int) = W := rfl
  have L : ix [N, C, H, W] ((2 : Nat) : Int) = H := rfl
  rw [f1, J, show (0 : Int) + 1 = 1 from rfl, Int.emod_one, Int.ediv_one] at i
  refine Eq.trans i ?_
  by_cases c : 0 ≤ z - pad ∧ z - pad < W
  · rw [if_pos ⟨by omega, rfl, c.2⟩]
    have h := a3 [n, k, y, z - pad] ⟨T, U, i3, c, trivial⟩
    have M : ix [n, k, y, z - pad] ((2 : Nat) : Int) = y := rfl
    rw [M, L, show (0 : Int) + 1 = 1 from rfl, Int.emod_one, Int.ediv_one] at h
    refine Eq.trans h ?_
    by_cases d : 0 ≤ y - pad ∧ y - pad < H
    · rw [if_pos ⟨by omega, rfl, d.2⟩, if_pos ⟨d, c⟩]
      rfl
    · rw [if_neg (fun q => d ⟨by omega, q.2.2⟩), if_neg (fun q => d q.1)]
  · rw [if_neg (fun q => c ⟨by omega, q.2.2⟩), if_neg (fun q => c q.2)]
theorem uL {t : Tensor} (M : TT t) {Y Z : Int} (E : t.Dims = [N, C, Y, Z]) (D : gU [N, C, Y, Z] 2 A st) (o1 : eL (dE (whole [N, C, Y, Z]) 2 A st).Dims) (w2 : gU (dE (whole [N, C, Y, Z]) 2 A st).Dims 3 B st) (o2 : eL (dE (dE (whole [N, C, Y, Z]) 2 A st) 3 B st).Dims) :
    VG (dE (whole [N, C, Y, Z]) 2 A st).Dims (dE (whole [N, C, Y, Z]) 2 A st).Strides (dE (whole [N, C, Y, Z]) 2 A st).Offset (dE (whole [N, C, Y, Z]) 2 A st).Base ∧
    VG (dE (dE (whole [N, C, Y, Z]) 2 A st) 3 B st).Dims (dE (dE (whole [N, C, Y, Z]) 2 A st) 3 B st).Strides (dE (dE (whole [N, C, Y, Z]) 2 A st) 3 B st).Offset (dE (dE (whole [N, C, Y, Z]) 2 A st) 3 B st).Base ∧
    (∀ s ∈ (dE (whole [N, C, Y, Z]) 2 A st).Strides, 0 ≤ s) ∧ (dE (dE (whole [N, C, Y, Z]) 2 A st) 3 B st).Base = pr t.Dims ∧
    ∃ X, Z0n t (dE (dE (whole [N, C, Y, Z]) 2 A st) 3 B st) = some ⟨[N, C, (Y - A) / st + 1, (Z - B) / st + 1, A, B], X⟩ ∧ TOk [N, C, (Y - A) / st + 1, (Z - B) / st + 1, A, B] X ∧
      ∀ n k i j a b, IV [N, C, (Y - A) / st + 1, (Z - B) / st + 1, A, B] [n, k, i, j, a, b] → ix X (fA [N, C, (Y - A) / st + 1, (Z - B) / st + 1, A, B] [n, k, i, j, a, b]) = ix t.Data (fA [N, C, Y, Z] [n, k, i * st + a, j * st + b]) ∧ IV [N, C, Y, Z] [n, k, i * st + a, j * st + b] := by
  have J : eL [N, C, Y, Z] := E ▸ M.d
  have F := pI J
  have u : ∀ s ∈ (whole [N, C, Y, Z]).Strides, 0 ≤ s := fun s h => (gv J.2 s h).1
  obtain ⟨v1, a1⟩ : ∃ v1, v1 = dE (whole [N, C, Y, Z]) 2 A st := ⟨_, rfl⟩
  have g1 := iS F u D o1
  have s1 : ∀ s ∈ (dE (whole [N, C, Y, Z]) 2 A st).Strides, 0 ≤ s := by
    intro s h
    have e : s ∈ (g0 [N, C, Y, Z]).set 2 (if fD [N, C, Y, Z] 2 A st = 1 then 0 else ix (g0 [N, C, Y, Z]) 2 * st) ++ [if A = 1 then 0 else ix (g0 [N, C, Y, Z]) 2] := h
    have h2 : 0 ≤ ix (g0 [N, C, Y, Z]) 2 := u _ (bJ (xs := g0 [N, C, Y, Z]) (k := 2) (by rw [fg]; simp))
    have a0 := D.2.2.2.1
    rcases List.mem_append.1 e with e | e
    · exact f8 (P := fun s => 0 ≤ s) u (by
        by_cases c : fD [N, C, Y, Z] 2 A st = 1
        · rw [if_pos c]; exact Int.le_refl 0
        · rw [if_neg c]; exact Int.mul_nonneg h2 (by omega)) s e
    · rcases List.mem_singleton.1 e with rfl
      by_cases c : A = 1
      · rw [if_pos c]; exact Int.le_refl 0
      · rw [if_neg c]; exact h2
  have G := iS g1 s1 w2 o2
  have I : (dE (dE (whole [N, C, Y, Z]) 2 A st) 3 B st).Base = pr t.Dims := by rw [E]; rfl
  refine ⟨g1, G, s1, I, ?_⟩
  obtain ⟨X, h1, h2, h3⟩ := uw M G I
  refine ⟨X, h1, h2, fun n k i j a b L => ?_⟩
  have q := h3 [n, k, i, j, a, b] L
  obtain ⟨T, U, i3, i4, i5, i6, _⟩ := L
  obtain ⟨q1, q2⟩ := qv (v := dE (whole [N, C, Y, Z]) 2 A st) (j := 3) (sz := B) (st := st) g1.l w2 (is := [n, k, i, j, a]) (w := b) ⟨T, U, i3, i4, i5, trivial⟩ i6
  have m : IV [N, C, (Y - A) / st + 1, Z, A] [n, k, i, j * st + b, a] := q2
  obtain ⟨_, _, _, j4, _⟩ := m
  obtain ⟨r1, r2⟩ := qv (v := whole [N, C, Y, Z]) (j := 2) (sz := A) (st := st) F.l D (is := [n, k, i, j * st + b]) (w := a) ⟨T, U, i3, j4, trivial⟩ i5
  have g : IV [N, C, Y, Z] [n, k, i * st + a, j * st + b] := r2
  refine ⟨?_, g⟩
  refine Eq.trans q (congrArg (ix t.Data) ?_)
  refine Eq.trans q1 (Eq.trans r1 ?_)
  have := j3 g
  show (0 : Int) + zs (· * ·) [n, k, i * st + a, j * st + b] (g0 [N, C, Y, Z]) = _
  rw [this, Int.zero_add]
end
section
variable {N C H W O A B st pad Y Z : Int}
theorem xP {X xd wd : List Int} {u w : Tensor} (tu : TT u) (eu : u.Dims = [N, C, Y, Z, A, B]) (tw : TT w) (ew : w.Dims = [O, C, A, B])
    (nx : ∀ n k y z, IV [N, C, H, W] [n, k, y, z] → 0 ≤ ix xd (fA [N, C, H, W] [n, k, y, z]) ∧ ix xd (fA [N, C, H, W] [n, k, y, z]) < 2147483647)
    (hu : ∀ n k i j a b, IV [N, C, Y, Z, A, B] [n, k, i, j, a, b] → ix u.Data (fA [N, C, Y, Z, A, B] [n, k, i, j, a, b]) = if (0 ≤ i * st - pad + a ∧ i * st - pad + a < H) ∧ 0 ≤ j * st - pad + b ∧ j * st - pad + b < W then ix xd (fA [N, C, H, W] [n, k, i * st - pad + a, j * st - pad + b]) else 0)
    (hc : ∃ s, li gD [u.Dims, w.Dims] s) :
    Z0q gD [u, w] = some ⟨[N, O, Y, Z], rP [N, O, Y, Z] (ux N C H W O A B st pad xd w.Data)⟩ ∧ ∀ s, li gD [u.Dims, w.Dims] s → (s.1.map (lk s.2)).take (parts gD).2.1.length = [N, O, Y, Z] := by
  have D : ∀ t ∈ [u, w], TT t := fun t D => by
    rcases List.mem_cons.1 D with rfl | D
    · exact tu
    · rcases List.mem_singleton.1 D with rfl
      exact tw
  rcases sU (f := gD) (ts := [u, w]) (by decide) D with ⟨s, r, c1, c2, L⟩ | ⟨no, _⟩
  · rw [mX L c2 D]
    have U := xO c1
    have F := (L.grp (k := 0) (by simp)).1
    have g1 := (L.grp (k := 1) (by simp)).1
    have M : ix [u, w] ((0 : Nat) : Int) = u := rfl
    have T : ix [u, w] ((1 : Nat) : Int) = w := rfl
    rw [kl] at F g1
    rw [M, eu] at F
    rw [T, ew] at g1
    have p0 : ix ([[110, 99, 104, 119, 97, 98], [111, 99, 97, 98]], ([110, 111, 104, 119] : aO), true).1 ((0 : Nat) : Int) = ([110, 99, 104, 119, 97, 98] : aO) := rfl
    have p1 : ix ([[110, 99, 104, 119, 97, 98], [111, 99, 97, 98]], ([110, 111, 104, 119] : aO), true).1 ((1 : Nat) : Int) = ([111, 99, 97, 98] : aO) := rfl
    rw [p0] at F
    rw [p1] at g1
    simp only [List.map_cons, List.map_nil, List.cons.injEq] at F g1
    obtain ⟨l1, l2, l3, l4, l5, l6, _⟩ := F
    obtain ⟨l7, _, _, _, _⟩ := g1
    have I : r.loops = [N, O, Y, Z, C, A, B] := by
      rw [L.lp, U]
      simp only [List.map_cons, List.map_nil, ← l1, ← l2, ← l3, ← l4, ← l5, ← l6, ← l7]
    have g : r.dims = [N, O, Y, Z] := by
      rw [L.dm, kl, U]
      simp only [List.map_cons, List.map_nil, ← l1, ← l2, ← l3, ← l4, ← l5, ← l6, ← l7]
      rfl
    have a2 : r.loops.drop r.dims.length = [C, A, B] := by rw [I, g]; rfl
    have h : eL [N, O, Y, Z] := g ▸ L.dok
    refine ⟨?_, fun s' a5 => by
      have e := a5.2.2.1.1.symm.trans c1.2.2.1.1
      cases e
      rw [← g, L.dm]⟩
    congr 2
    rw [g]
    have a6 : eL [O, C, A, B] := ew ▸ tw.d
    have J := fun d (hd : d ∈ [O, C, A, B]) => a6.2.mem hd
    have k1 := J C (by simp)
    have k2 := J A (by simp)
    have k3 := J B (by simp)
    refine qb h.2.1 ?_ ?_
    · rw [jH]
      have := h.2.pos
      omega
    · intro is hi
      have a4 := fp h.2.1 hi
      obtain ⟨q, hq⟩ := Int.eq_ofNat_of_zero_le a4.1
      obtain ⟨R, hR, hv⟩ := md L (q := q) (by rw [g]; omega)
      rw [a2] at hv hR
      rw [g, ← hq, lj h.2.1 hi] at hv
      refine Eq.trans hv ?_
      unfold ux
      have eR : (C * A * B).toNat = R := by
        have : C * A * B = pr [C, A, B] := by simp [pr, Int.mul_assoc]
        rw [this]
        omega
      rw [eR]
      refine it fun c hc => ?_
      unfold wA
      have hj := f7 (ds := [C, A, B]) (fun d hd => (J d (List.mem_cons_of_mem _ hd)).1) (c : Int)
      obtain ⟨js, a3⟩ : ∃ js, js = dX [C, A, B] (c : Int) := ⟨_, rfl⟩
      rw [← a3] at hj ⊢
      match is, hi, js, hj with
      | [n, o, i, j], ⟨q1, q2, q3, q4, _⟩, [k, a, b], ⟨q5, q6, q7, _⟩ =>
        have G : IV r.loops ([n, o, i, j] ++ [k, a, b]) := by rw [I]; exact ⟨q1, q2, q3, q4, q5, q6, q7, trivial⟩
        have a0 := (L.at_ G (k := 0) (by simp)).1
        have E := (L.at_ G (k := 1) (by simp)).1
        unfold sW at a0 E
        rw [kl, U] at a0 E
        rw [M, p0, eu] at a0
        rw [T, p1, ew] at E
        have b0 : ([110, 99, 104, 119, 97, 98] : aO).map (vl [110, 111, 104, 119, 99, 97, 98] ([n, o, i, j] ++ [k, a, b])) = [n, k, i, j, a, b] := rfl
        have b1 : ([111, 99, 97, 98] : aO).map (vl [110, 111, 104, 119, 99, 97, 98] ([n, o, i, j] ++ [k, a, b])) = [o, k, a, b] := rfl
        rw [b0] at a0
        rw [b1] at E
        show 1 * ix (ix [u, w] ((0 : Nat) : Int)).Data (ix (AT r.steps ([n, o, i, j] ++ [k, a, b])) ((0 : Nat) : Int)) % 2147483647 * ix (ix [u, w] ((1 : Nat) : Int)).Data (ix (AT r.steps ([n, o, i, j] ++ [k, a, b])) ((1 : Nat) : Int)) % 2147483647 = uU N C H W O A B st pad xd w.Data n o i j k a b
        rw [a0, E, M, T, hu n k i j a b ⟨q1, q5, q3, q4, q6, q7, trivial⟩]
        unfold uU
        by_cases cc : (0 ≤ i * st - pad + a ∧ i * st - pad + a < H) ∧ 0 ≤ j * st - pad + b ∧ j * st - pad + b < W
        · rw [if_pos cc, if_pos cc]
          have m := nx n k (i * st - pad + a) (j * st - pad + b) ⟨q1, q5, cc.1, cc.2, trivial⟩
          rw [Int.one_mul, Int.emod_eq_of_lt m.1 m.2, Int.mul_comm]
        · rw [if_neg cc, if_neg cc]
          simp
  · exact absurd hc no
end
end Go.Proofs.YthfhllekobdelaaGreatDoor
