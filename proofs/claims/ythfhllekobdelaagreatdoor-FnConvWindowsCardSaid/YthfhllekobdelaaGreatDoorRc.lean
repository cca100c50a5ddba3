import Derived.Test.YthfhllekobdelaaGreatDoorPg9
import Derived.Deep.Slices
import Derived.Carry
set_option linter.unusedVariables false
namespace Go.Pg
def jv (W : World) : Hp := fun b => W.heap[b]?
def Rc (P : Program) (t : TypeId) {α : Type} (K : Kind α) (C : α → Prop) : Prop :=
  ∀ (W : World) (H : Type) (enc : TypeId × Value → H) (fuel : Nat) (cs : List Value) (x : DataW H × List MemPlace), DataW.trod enc P W 0 (fun _ => true) true fuel t cs = some x → ∃ a : α, K.rd (jv W) a cs ∧ C a
def wD (P : Program) (t : Nat) (k : IntKind) : Bool := match P.underlying t with
  | some (.int k') => k' == k
  | _ => false
section
variable {P : Program} {t : TypeId} {α : Type}
theorem uO {k : IntKind} (h : wD P t k = true) : Rc P t (Kind.int k) (fun _ => True) := by
  intro W H enc fuel cs x a
  have b : P.underlying t = some (.int k) := by
    unfold wD at h
    split at h
    · rename_i g e; rw [e, eq_of_beq h]
    · cases h
  cases fuel with
  | zero => simp [DataW.trod] at a
  | succ n =>
    unfold DataW.trod at a
    rw [b] at a
    split at a <;> simp_all
    exact ⟨_, rfl⟩
theorem wE {K : Kind α} {C : α → Prop} [Inhabited α] {e e' : Nat} (ht : km P t = some e) (he : Rc P e K C) (hc : P.cellsOf e = K.sz) (hs : Nat.blt 0 K.sz = true) : Rc P t (Kind.sl e' K) (fun xs => xs.length ≤ maxLen ∧ ∀ x ∈ xs, C x) := by
  intro W H enc fuel cs x hx
  have hs : 0 < K.sz := Nat.le_of_ble_eq_true hs
  rcases Deep.open_slice (gp ht) hx with ⟨rfl, _⟩ | ⟨a, F, M, m, n, D, Pl, rfl, _, hl, hm, a0, _, T⟩
  · exact ⟨[], ⟨_, rfl, none, 0, rfl, Nat.le_refl _, Nat.zero_le _, fun h => absurd h (Nat.lt_irrefl _)⟩, Nat.zero_le _, fun x h => by cases h⟩
  · simp only [if_true] at a0
    have I : ∀ i, ∃ y : α, i < F → C y ∧ ∃ E, K.rd (jv W) y E ∧ ∀ q u, E[q]? = some u → W.cell? ((a.add (i * P.cellsOf e)).add q) = some u := by
      intro i
      by_cases hi : i < F
      · obtain ⟨E, h1, h2⟩ := T i (by omega)
        obtain ⟨y, L, hC⟩ := he W H enc _ _ _ h2
        refine ⟨y, fun _ => ⟨hC, E, L, fun q u hq => ?_⟩⟩
        obtain ⟨_, G, J⟩ := World.cells?_some h1
        rw [J q (by rw [← G]; exact (List.getElem?_eq_some_iff.1 hq).1), hq]
      · exact ⟨default, fun h => absurd h hi⟩
    obtain ⟨g, U⟩ := Classical.axiomOfChoice I
    refine ⟨(List.range F).map g, ⟨_, rfl, some a, M, by simp, by simpa using hl, by simp; omega, fun hp => ?_⟩, by simp; omega, fun x hx => ?_⟩
    rotate_left
    · obtain ⟨i, hi, rfl⟩ := List.mem_map.1 hx
      exact (U i (List.mem_range.1 hi)).1
    have hp : 0 < F := by simpa using hp
    obtain ⟨b, o, sp⟩ := a
    have a1 : sp = none := by
      obtain ⟨_, E, h1, h2⟩ := U 0 hp
      have G := K.rd_len h1
      have := h2 0 _ (List.getElem?_eq_getElem (by omega))
      simpa [Addr.add] using World.cell?_spot this
    subst a1
    refine ⟨b, o, rfl, fun j y L => ?_⟩
    have hj : j < F := by
      have := (List.getElem?_eq_some_iff.1 L).1
      simpa using this
    have a2 : y = g j := by simpa [hj] using L.symm
    subst a2
    obtain ⟨_, E, h1, h2⟩ := U j hj
    refine ⟨E, h1, fun i u hu => ?_⟩
    have := h2 i u hu
    rw [fi, fi, hc] at this
    unfold World.cell? at this
    unfold fQ jv
    simp only [Option.isSome_none, Bool.false_eq_true, if_false] at this
    cases hb : W.heap[b]? with
    | none => rw [hb] at this; cases this
    | some ob =>
      rw [hb] at this
      cases ob with
      | cells c ty fr => exact this
      | _ => cases this
theorem Rc.mono {K : Kind α} {C D : α → Prop} (h : Rc P t K C) (b : ∀ a, C a → D a) : Rc P t K D := fun W H enc fuel cs x e => let ⟨a, p, q⟩ := h W H enc fuel cs x e; ⟨a, p, b a q⟩
def uP (W : World) : HP := ⟨fun I h => h = Hp.none ∧ Hp.le (jv W) I, fun l e => ⟨e.1, Hp.le_trans e.2 l⟩⟩
theorem uQ {W : World} {a : List HP} (h : ∀ q ∈ a, q.p (jv W) Hp.none) : St W W (a ++ [uP W]) := by
  refine ⟨⟨rfl, rfl, rfl⟩, jv W, Hp.none, jv W, (Join.none _).symm, fun b o e => e, ?_⟩
  have : ∀ a : List HP, (∀ q ∈ a, q.p (jv W) Hp.none) → eT a (jv W) Hp.none := by
    intro a
    induction a with
    | nil => intro _; rfl
    | cons q a ih => intro h; exact ⟨Hp.none, Hp.none, Join.none _, h q (by simp), ih (fun p i => h p (by simp [i]))⟩
  exact this _ (by
    intro q g
    rcases List.mem_append.1 g with g | g
    · exact h q g
    · rw [List.mem_singleton.1 g]; exact ⟨rfl, Hp.le_refl _⟩)
theorem oo {W a : World} {V : List HP} (s : St W a (V ++ [uP W])) : RowKit.Below W.heap.size W a := by
  obtain ⟨u, I, h, g, j, l, st⟩ := s
  obtain ⟨h1, h2, G, L, E, F, J, ⟨rfl, m⟩, _⟩ := cS.1 st
  have D : ∀ b o, W.heap[b]? = some o → a.heap[b]? = some o := fun b o e => l b o (j.left b o (m b o e))
  refine ⟨u.os, u.tape, u.output, ?_, fun k i => ?_⟩
  · refine Nat.le_of_not_lt fun q => ?_
    have i : a.heap.size < W.heap.size := q
    have := D a.heap.size _ (Array.getElem?_eq_getElem i)
    have := (Array.getElem?_eq_some_iff.1 this).1
    omega
  · rw [D k _ (Array.getElem?_eq_getElem i), Array.getElem?_eq_getElem i]
theorem wF {W : World} {g k : Nat} {v : Value} (h : W.cell? ⟨g, k, none⟩ = some v) : (cl g k [v]).p (jv W) Hp.none := by
  refine ⟨rfl, fun i u a => ?_⟩
  cases i with
  | succ i => simp at a
  | zero =>
    obtain rfl : v = u := by simpa using a
    unfold World.cell? at h
    unfold fQ jv
    simp only [Option.isSome_none, Bool.false_eq_true, if_false] at h
    cases hb : W.heap[g]? with
    | none => rw [hb] at h; cases h
    | some ob =>
      rw [hb] at h
      cases ob with
      | cells c ty fr => exact h
      | _ => cases h
end
end Go.Pg
