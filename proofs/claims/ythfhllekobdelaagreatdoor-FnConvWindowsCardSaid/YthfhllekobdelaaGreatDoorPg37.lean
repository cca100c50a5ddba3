import Derived.Test.YthfhllekobdelaaGreatDoorPg36
import Derived.OrdersIn
set_option linter.unusedVariables false
set_option linter.unusedSimpArgs false
namespace Go.Pg
theorem tG {ro : Option Nat} {P : Program} {ops : Array Oper} {Q : Exit → Act → World → Prop} (D : ¬ LetsOut Q) (q : fU ops.toList = true) {i : Nat} {K j : Act → World → Prop} (b : ∀ a w, K a w → j a w) {a : Act} {w : World} (h : wpOp P ops Q i K a w) : wpOpIn (qO ro) 0 P ops Q i j a w := by
  unfold wpOp at h
  unfold wpOpIn
  cases ho : ops[i]? with
  | none => rw [ho] at h; exact b _ _ h
  | some o =>
    rw [ho] at h
    simp only at h ⊢
    have g : ∀ c, o.op ≠ .defer c := by
      intro c m
      have u : o ∈ ops.toList := Array.mem_toList_iff.2 (Array.mem_of_getElem? ho)
      have := List.all_eq_true.1 q o u
      rw [m] at this
      cases this
    split
    · rename_i hw
      rw [if_pos hw] at h
      have h := h.resolve_right fun h => D h.2
      refine ⟨fun _ _ => trivial, ?_⟩
      have e : o.semAt (qO ro).round a.eval = execOp a.eval o := Oper.semAt_eq _ _ _ g
      rw [e]
      exact lU (Oper.wp_mono b h)
    · rename_i hw
      rw [if_neg hw] at h
      exact ⟨fun _ _ => trivial, b _ _ h⟩
theorem nr {ro : Option Nat} {P : Program} {ops : Array Oper} {Q : Exit → Act → World → Prop} (e : ¬ LetsOut Q) (b : fU ops.toList = true) : ∀ (fuel : Nat) (listed : Array Bool) (a : Act) (w : World), wpAny P .any ops Q fuel listed a w → wpAnyIn (qO ro) 0 P .any ops Q fuel listed a w
  | 0, _, _, _, h => h
  | fuel + 1, _, _, _, h => ⟨h.1, fun i g => tG e b (fun a w => nr e b fuel _ a w) (h.2 i g)⟩
def TE (X : Cx) (V : List HP) (σ : cY) (l : List Oper) (Q : Exit → cY → World → Prop) : Prop :=
  ∀ w, St X.C w V → ∀ a : Act, a.tmps.size = X.n.n → a.defers = X.n.ds → eN a = σ → ∃ R : Exit → Act → World → Prop, (¬ LetsOut R) ∧ wpAny X.P .any l.toArray R l.length (Array.replicate l.length false) a w.drew ∧ ∀ e a w, R e a w → fq X.n (NP Q) e a w
section
variable {α : Type} {X : Cx} {V : List HP} {σ : cY} {Q : Exit → cY → World → Prop} {l : List Oper}
theorem wV {V' : List HP} (f : ∀ w, St X.C w V → St X.C w V') (h : TE X V' σ l Q) : TE X V σ l Q := fun w s => h w (f w s)
theorem vn {K : Kind α} {a : Option Addr} {n c : Nat} {xs : List α} (i : Nat) (b : gC (lk V i) K (.slice a n c) xs) (h : n = xs.length → TE X V σ l Q) : TE X V σ l Q := fun w s => h (s.len i b) w s
theorem tH {K : Kind α} {a : Option Addr} {n c : Nat} {xs : List α} (i : Nat) (m : gC (lk V i) K (.slice a n c) xs) (h1 : 0 < n) (h : ∀ g o, a = some ⟨g, o, none⟩ → TE X V σ l Q) : TE X V σ l Q := by
  intro w s
  obtain ⟨J, lw, A, u, b, h2, D, e⟩ := s.reads m
  have E : n = xs.length := by injection b
  have q : a = A := by injection b
  obtain ⟨g, o, j, _⟩ := e (by omega)
  exact h g o (by rw [q, j]) w s
theorem edr (k : Nat) (rs : List Nat) (h : gj l.toArray k = true → Region.noSelect l.toArray = true → TD X l.toArray k (rmL V rs) l.length (Array.replicate l.length false) V σ Q) (b : (gj l.toArray k && Region.noSelect l.toArray) = true := by kernel_rfl) : TE X V σ l Q := by
  intro w s a h1 h2 g
  rw [Bool.and_eq_true] at b
  refine ⟨_, nq (N := X.n) (Q := NP Q) fun _ _ h => h, ic (S := fun w => St X.C w (rmL V rs)) (k := k) _ _ _ _ ?_, fun _ _ _ h => h⟩
  exact h b.1 b.2 a w.drew h1 h2 g (fun j o _ e => by
      exfalso
      by_cases hj : j < l.length
      · simp [Array.getElem?_replicate, hj] at e
      · simp [Array.getElem?_replicate, hj] at e) s.drew
theorem tI {A : Type} (pf : A → Prop) (g : A → List (Nat × Value)) (b : A → List HP) (m : TE X V σ l (fK (Jn X pf g b) Q)) (u : ∀ a σ', pf a → TQ X (b a) (lv σ' (g a)) .normal Q) : TE X V σ l Q := by
  intro w s a h1 h2 j
  obtain ⟨R, D, E, F⟩ := m w s a h1 h2 j
  refine ⟨R, D, E, fun e a w h => gY (F e a w h) fun q => ?_⟩
  cases e with
  | normal =>
    obtain ⟨x, i, h1, h2⟩ := q
    have := u x (eN a) i w h2
    rw [hK h1] at this
    exact this
  | _ => exact q
end
theorem wW {A : Type} {P : Program} {l : Nat} {g : Loop} {p : Tmp} {n i1 b i2 : Nat} {L M : List Oper} {σ : cY} {x : Value} {go : Bool} (D j : A → List HP)
    (i : Rec g #[p] (.region i1 L.toArray false) (.block b (.region i2 M.toArray true)) n σ) (h1 : fU L = true) (h2 : fU M = true) (hm : P.follows .mixedOrders = true) (hp : Nat.blt p n = true)
    (J : ∀ a, ∃ σ2, ∀ C V, TL ⟨P, .of n, C⟩ L.toArray (D a ++ V) (iW σ p x) L (wR ⟨P, .of n, C⟩ σ2 (D a ++ V)) ∧ TE ⟨P, .of n, C⟩ (D a ++ V) σ2 M (wS ⟨P, .of n, C⟩ go j V)) :
    wQ P l [x] [pe fun a => qL l g :: D a] (fun _ : Unit => (.bool go, [pe fun a => qL l g :: j a])) := by
  intro C w V s
  obtain ⟨a, s⟩ := s.peo
  have hl := hT s 0 rfl
  refine ⟨g.fn, _, g.assign, g.body, run_yield hl (by rw [i.ps]; rfl), ?_⟩
  rw [i.asn, i.body, i.ps]
  have u : ((#[p] : Array Tmp).zip [x].toArray).foldl (fun tmps (t, a) => tmps.setIfInBounds t a) g.tmps = g.tmps.setIfInBounds p x := by
    simp
  rw [u]
  have a2 : (g.tmps.setIfInBounds p x).size = n := by rw [Array.size_setIfInBounds, i.sz]
  have a1 : p < g.tmps.size := by rw [i.sz]; exact Nat.lt_of_lt_of_le (Nat.lt_succ_self _) (Nat.le_of_ble_eq_true hp)
  have E : eN { tmps := g.tmps.setIfInBounds p x, defers := [] } = iW σ p x := by
    have := gX { tmps := g.tmps, defers := [] } (some p) x (fun d e => by cases e; exact a1)
    rw [show ({ tmps := g.tmps, defers := [] } : Act).put (some p) x = { tmps := g.tmps.setIfInBounds p x, defers := [] } from rfl] at this
    rw [this, ← i.env]
    rfl
  obtain ⟨σ2, wk⟩ := J a
  have wa := (wk C (qL l g :: V)).1
  have wb := (wk C (qL l { g with state := .busy } :: V)).2
  refine roundIn_of_wpIn trivial (n := 0) ?_
  have g1 := jX (ro := some l) (nq (N := .of n) (Q := wR ⟨P, .of n, C⟩ σ2 (D a ++ qL l g :: V)) fun _ _ h => h) _ _ w h1 (wa w (St.dn s) _ a2 rfl E)
  refine wpIn_mono (wpIn_region_lit g1) ?_
  rintro e a' w' q
  cases e with
  | normal =>
    obtain ⟨q1, q2, m, T⟩ := eZ q (by simp)
    have T := St.up T
    have a0 := hT T 0 rfl
    refine ⟨_, run_beginRound a0 i.st, ?_⟩
    have s2 := St.dn (T.putObj (o' := .loop { g with state := .busy }))
    obtain ⟨R, r1, g2, r3⟩ := wb (w'.putObj l (.loop { g with state := .busy })) s2 a' q1 q2 m
    have g3 := nr (ro := some l) r1 (ops := M.toArray) (by simpa using h2) _ _ _ _ g2
    refine wpIn_block (wpIn_mono (wpIn_region_any (F := qO (some l)) hm (by simpa using g3)) ?_)
    rintro e U I q
    have q : fq (.of n) (wS ⟨P, .of n, C⟩ go j (qL l { g with state := .busy } :: V)) e U I := gY (r3 _ _ _ q) fun m => by cases e <;> first | exact m | exact m.elim
    cases e with
    | normal =>
      obtain ⟨q1, q2, rfl, y, m⟩ := eZ q (by simp)
      have m := St.up m
      have G := hT m 0 rfl
      refine ⟨_, _, run_endRound none G, (), rfl, ?_⟩
      have s3 := m.putObj (o' := .loop { { g with state := .busy } with state := .ready, pending := none })
      rw [lV i.st i.pe] at s3
      refine Eq.mp (congrArg (fun o => St C (I.putObj l o) (pe (fun a => qL l g :: j a) :: V)) ?_) (St.pei y s3)
      exact (congrArg Obj.loop (lV (s := .busy) i.st i.pe)).symm
    | ret => rcases q with ⟨_, _, q⟩ | ⟨_, q⟩ <;> exact q.elim
    | _ => exact (eZ q (by simp)).2.2.elim
  | ret => rcases q with ⟨_, _, q⟩ | ⟨_, q⟩ <;> exact q.elim
  | _ => exact (eZ q (by simp)).2.2.elim
end Go.Pg
