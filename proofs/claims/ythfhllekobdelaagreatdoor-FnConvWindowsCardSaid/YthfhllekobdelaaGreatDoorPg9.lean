import Derived.Test.YthfhllekobdelaaGreatDoorPg1
import Derived.Deep.Quiet
import Derived.KernelRfl
import Derived.OrdersHeld
set_option linter.unusedVariables false
set_option linter.unusedSimpArgs false
namespace Go.Pg
def tk : Nat → List HP → List HP
  | 0, _ => []
  | _, [] => []
  | k + 1, q :: V => q :: tk k V
def dp : Nat → List HP → List HP
  | 0, V => V
  | _, [] => []
  | k + 1, _ :: V => dp k V
theorem kv (k : Nat) (V : List HP) : tk k V ++ dp k V = V := by
  induction k generalizing V with
  | zero => rfl
  | succ k ih =>
    cases V with
    | nil => rfl
    | cons q V => simp [tk, dp, ih]
section
variable {X : Cx} {V : List HP} {σ : cY} {Q : Exit → cY → World → Prop} {ops : Array Oper} {rest : List Oper}
variable {d : Option Nat} {ty : TypeId} {pos : String} {af : Array Edge} {gd : Option (Nat × Bool)}
variable {α β : Type}
theorem f6 {K : Kind α} {t e : TypeId} {x y : Operand} {s u : Value} {xs ys : List α} {z : α} {q : HP} {b : Nat} (N : Nat) (hd : dok X.n d = true) (hw : eA ops σ ⟨d, .call ⟨.builtin .append, #[x, y], #[t, t]⟩, ty, pos, af, gd⟩ = true)
    (ht : km X.P t = some e) (hs : gb X.P e = some K.sz) (U : fR X.P e = some b) (hz : lK X.P K e z) (m : Nat.blt 0 K.sz = true) (F : Nat.ble (N * b) 140737488355328 = true) (g : Nat.ble N 140737488355328 = true) (i : Nat.blt 0 b = true)
    (hx : ev σ x = s) (hy : ev σ y = u) (E : wH q K u ys) (L : xs.length + ys.length ≤ N)
    (h : ∀ a c, TL X ops (ow K e (.slice a (xs ++ ys).length c) (xs ++ ys) :: V) (fx σ d (.slice a (xs ++ ys).length c)) rest Q) :
    TL X ops (ow K e s xs :: q :: V) σ (⟨d, .call ⟨.builtin .append, #[x, y], #[t, t]⟩, ty, pos, af, gd⟩ :: rest) Q := by
  intro w st
  have F := Nat.le_of_ble_eq_true F
  have g := Nat.le_of_ble_eq_true g
  have m : 0 < K.sz := Nat.le_of_ble_eq_true m
  have i : 0 < b := Nat.le_of_ble_eq_true i
  have G : (xs.length + ys.length) * b ≤ 140737488355328 := Nat.le_trans (Nat.mul_le_mul_right _ L) F
  obtain ⟨⟨a, c⟩, D, hr, s'⟩ := St.act st.sep 0 (q := fun p : Option Addr × Nat => ow K e (.slice p.1 (xs ++ ys).length p.2) (xs ++ ys))
    (Ψ := fun p D => (Builtin.append_ #[t, t] ty #[s, u]).run X.P w = .ok (.slice p.1 (xs ++ ys).length p.2) D) (by
      rintro I hh ⟨h1, h2, j, p1, p2⟩ lI lh M
      obtain ⟨a, c, D, T, r1, r2, r3, r4, r5, r6⟩ := qX (ty := ty) ht hs U hz m j p1 p2 E lI lh M G (Nat.le_trans L g) i
      exact ⟨⟨a, c⟩, D, T, r1, r2 _, r3, r4, r5, r6⟩)
  refine eW hd hw ?_
  have J : (execOp (ev σ) ⟨d, .call ⟨.builtin .append, #[x, y], #[t, t]⟩, ty, pos, af, gd⟩).run X.P w = .ok (.value (.slice a (xs ++ ys).length c)) D := by
    simp [execOp, resolve, invoke, builtin, hx, hy, hr]
  rw [J]
  exact h a c D s'
theorem oK {size : Nat} : ∀ (vs : List Value) (k : Nat) (cells : Array Value), (∀ v ∈ vs, v.cells.size = size) → (k + vs.length) * size ≤ cells.size →
    ∃ r, Instr.fill (fun i => some (i * size, size)) cells ((List.range' k vs.length).zip vs) = some r ∧ r.toList = cells.toList.take (k * size) ++ (vs.map (·.cells.toList)).flatten ++ cells.toList.drop ((k + vs.length) * size) := by
  intro vs
  induction vs with
  | nil => intro k cells _ _; exact ⟨cells, by simp [Instr.fill], by simp⟩
  | cons v vs ih =>
    intro k cells q E
    have h1 := q v (by simp)
    have g : (k + 1 + vs.length) * size ≤ cells.size := by simpa [Nat.add_assoc, Nat.add_comm 1] using E
    have J : k * size + size ≤ cells.size := by
      have : (k + 1) * size ≤ (k + 1 + vs.length) * size := Nat.mul_le_mul_right _ (by omega)
      rw [Nat.succ_mul] at this
      omega
    have b : ∀ (l : List Value) (j : Nat) (cs : Array Value), k * size + j + l.length ≤ cs.size →
        ((l.zipIdx j).foldl (fun cs (c, j) => cs.setIfInBounds (k * size + j) c) cs).toList = cs.toList.take (k * size + j) ++ l ++ cs.toList.drop (k * size + j + l.length) := by
      intro l
      induction l with
      | nil => intro j cs _; simp
      | cons u l ihl =>
        intro j cs h
        simp only [List.zipIdx_cons, List.foldl_cons]
        rw [ihl (j + 1) _ (by simp at *; omega)]
        simp only [List.length_cons] at h
        rw [Array.toList_setIfInBounds, show k * size + (j + 1) = (k * size + j) + 1 by omega, List.take_succ_eq_append_getElem (by simp; omega), List.take_set_of_le (Nat.le_refl _), List.drop_set_of_lt (by omega)]
        simp [Nat.add_assoc, Nat.add_comm, Nat.add_left_comm]
    have m : ((v.cells.toList.zipIdx 0).foldl (fun cs (c, j) => cs.setIfInBounds (k * size + j) c) cells).size = cells.size := by
      generalize v.cells.toList.zipIdx 0 = l
      clear h1 ih E g J b q
      induction l generalizing cells with
      | nil => rfl
      | cons u l ihl => simp only [List.foldl_cons]; rw [ihl]; simp
    obtain ⟨r, L, e⟩ := ih (k + 1) ((v.cells.toList.zipIdx 0).foldl (fun cs (c, j) => cs.setIfInBounds (k * size + j) c) cells) (fun u M => q u (by simp [M])) (by rw [m]; exact g)
    refine ⟨r, ?_, ?_⟩
    · simp only [List.length_cons, List.range'_succ, List.zip_cons_cons, Instr.fill]
      have I : ¬ (v.cells.size ≠ size ∨ k * size + v.cells.size > cells.size) := by rw [h1]; omega
      rw [if_neg (by simpa using I)]
      have T : v.cells.zipIdx.foldl (fun cs (c, j) => cs.setIfInBounds (k * size + j) c) cells = (v.cells.toList.zipIdx 0).foldl (fun cs (c, j) => cs.setIfInBounds (k * size + j) c) cells := by
        rw [← Array.foldl_toList]
        congr 1
        simp
      rw [T]
      exact L
    · rw [e, b v.cells.toList 0 cells (by simp [h1]; omega)]
      have D : (k + 1) * size = k * size + v.cells.toList.length := by rw [Nat.succ_mul]; simp [h1]
      have F : (k + 1 + vs.length) * size = k * size + v.cells.toList.length + vs.length * size := by rw [Nat.add_mul, D]
      have G : (k + (vs.length + 1)) * size = (k + 1 + vs.length) * size := by congr 1; omega
      have a : (cells.toList.take (k * size)).length = k * size := by simp; omega
      simp only [List.length_cons, Nat.add_zero, List.map_cons, List.flatten_cons]
      rw [G, F, D]
      rw [List.take_append_of_le_length (by simp [a]), List.take_of_length_le (by simp [a])]
      rw [List.drop_append, List.drop_of_length_le (by simp [a]), List.nil_append, List.drop_drop]
      simp only [List.append_assoc, List.length_append, a]
      congr 4
      omega
theorem oL {K : Kind α} {t e : TypeId} {m : Nat} {parts : Array (Nat × Operand)} {xs : List α} {vs : List Value} {z : List Value} (k : Nat) (hd : dok X.n d = true) (hw : eA ops σ ⟨d, .buildSlice t m parts, ty, pos, af, gd⟩ = true)
    (ht : km X.P t = some e) (hs : gb X.P e = some K.sz) (hz : jQ X.P e = some z) (a5 : z.length = K.sz) (a0 : Nat.blt 0 K.sz = true) (hp : parts.toList.map (fun p => (p.1, ev σ p.2)) = (List.range' 0 m).zip vs) (U : vs.length = m) (hv : vs.all (fun v => Nat.beq v.cells.size K.sz) = true) (G : Nat.ble (m * K.sz) 16777216 = true)
    (hx : ∀ I h, eT (tk k V) I h → fB K I h xs (vs.map (·.cells.toList)).flatten) (D : xs.length = m)
    (h : ∀ g c, TL X ops (ow K e (.slice (some ⟨g, 0, none⟩) xs.length c) xs :: dp k V) (fx σ d (.slice (some ⟨g, 0, none⟩) xs.length c)) rest Q) : TL X ops V σ (⟨d, .buildSlice t m parts, ty, pos, af, gd⟩ :: rest) Q := by
  intro w s
  refine eW hd hw ?_
  have hu := gp ht
  have a1 : ∀ v ∈ vs, v.cells.size = K.sz := fun v a2 => Nat.eq_of_beq_eq_true (List.all_eq_true.1 hv v a2)
  have G := Nat.le_of_ble_eq_true G
  obtain ⟨zv, a3, a4⟩ := iz (P := X.P) (w := w) hz
  have a6 : zv.cells.size = K.sz := by rw [a4]; simpa using a5
  obtain ⟨r, L, e'⟩ := oK (size := K.sz) vs 0 ((Array.range (m * K.sz)).map ((if m * K.sz = 0 then #[] else zv.cells)[· % (if m * K.sz = 0 then #[] else zv.cells).size]!)) a1 (by simp [U])
  have er : r = ((vs.map (·.cells.toList)).flatten).toArray := by
    apply Array.ext'
    rw [e', U]
    simp
  have M : (execOp (ev σ) ⟨d, .buildSlice t m parts, ty, pos, af, gd⟩).run X.P w = .ok (.value (.slice (some ⟨w.heap.size, 0, none⟩) m m)) (w.alloc (.cells ((vs.map (·.cells.toList)).flatten).toArray e)) := by
    have J : (parts.map fun (i, x) => (i, ev σ x)).toList = (List.range' 0 m).zip vs := by
      rw [← hp]; simp
    rw [U] at L
    simp only [execOp, Instr.buildSlice, Sem.run_bind, run_underlying hu, Result.andThen_ok, eE hs]
    rw [if_neg (by omega)]
    by_cases h0 : m * K.sz = 0
    · rw [if_pos h0] at L ⊢
      simp only [Sem.run_bind, Sem.run_pure, Result.andThen_ok, J, L, er]
      simp [newRow, Sem.run_bind]
    · rw [if_neg h0] at L ⊢
      simp only [Sem.run_bind, Sem.run_pure, Result.andThen_ok, a3, J, L, er]
      simp [newRow, Sem.run_bind]
  rw [M]
  have h' := h w.heap.size m
  rw [D] at h'
  refine h' _ ?_
  rw [← kv k V] at s
  obtain ⟨sm, I, hh, g, j, l, st⟩ := s
  obtain ⟨h1, h2, E, sa, sb⟩ := cS.1 st
  have lh : Le h1 w := l.mono (Hp.le_trans E.left j.right)
  have q : ∀ b o, g b = some o → b ≠ w.heap.size := fun b o e => by
    have := l.lt (b := b) (by rw [e]; exact fun h => by cases h)
    omega
  obtain ⟨F, T⟩ := Join.of_disj (h1 := Hp.one w.heap.size (.cells ((vs.map (·.cells.toList)).flatten).toArray e (0, 0))) (h2 := h1) (fun b => by
    by_cases hb : b = w.heap.size
    · refine .inr ?_
      cases hq : h1 b with
      | none => rfl
      | some o => exact absurd hb (q b o (j.right b o (E.left b o hq)))
    · exact .inl (by simp [Hp.one, hb]))
  obtain ⟨k1, jk⟩ := Join.of_disj (h1 := F) (h2 := h2) (fun b => by
    by_cases hb : b = w.heap.size
    · refine .inr ?_
      cases hq : h2 b with
      | none => rfl
      | some o => exact absurd hb (q b o (j.right b o (E.right b o hq)))
    · rcases E.disj b with f | f
      · exact .inl ((T.is_none b).2 ⟨by simp [Hp.one, hb], f⟩)
      · exact .inr f)
  obtain ⟨g', jg⟩ := Join.of_disj (h1 := I) (h2 := k1) (fun b => by
    by_cases hb : b = w.heap.size
    · refine .inl ?_
      cases hq : I b with
      | none => rfl
      | some o => exact absurd hb (q b o (j.left b o hq))
    · rcases j.disj b with f | f
      · exact .inl f
      · have := (E.is_none b).1 f
        exact .inr ((jk.is_none b).2 ⟨(T.is_none b).2 ⟨by simp [Hp.one, hb], this.1⟩, this.2⟩))
  have u : ∀ b o, g b = some o → (w.alloc (.cells ((vs.map (·.cells.toList)).flatten).toArray e)).heap[b]? = some o := fun b o e => l.alloc _ b o e
  refine ⟨sm.alloc _, I, k1, g', jg, ?_, F, h2, jk, ?_, sb⟩
  · intro b o a
    rcases jg.cases a with ⟨a, _⟩ | ⟨a, _⟩
    · exact u b o (j.left b o a)
    · rcases jk.cases a with ⟨a, _⟩ | ⟨a, _⟩
      · rcases T.cases a with ⟨a, _⟩ | ⟨a, _⟩
        · exact Le.one_new (w := w) (by show (w.heap.push _)[w.heap.size]? = _; simp) b o a
        · exact u b o (j.right b o (E.left b o a))
      · exact u b o (j.right b o (E.right b o a))
  · refine .inr ⟨w.heap.size, m, [], (vs.map (·.cells.toList)).flatten, [], (0, 0), h1, by simp [D], by omega, ?_, by simp [D], .inl rfl, by simpa using T, hx I h1 sa⟩
    have : m * 1 ≤ m * K.sz := Nat.mul_le_mul_left _ (Nat.le_of_ble_eq_true a0)
    simp only [maxLen]
    omega
theorem cC {K : Kind α} {t e : TypeId} {m : Nat} {parts : Array (Nat × Operand)} {xs : List α} {vs : List Value} {z : List Value} (k : Nat) (u : dok X.n d = true) (hw : eA ops σ ⟨d, .buildSlice t m parts, ty, pos, af, gd⟩ = true)
    (G : km X.P t = some e) (F : gb X.P e = some K.sz) (M : jQ X.P e = some z) (q : z.length = K.sz) (i : Nat.blt 0 K.sz = true) (E : parts.toList.map (fun p => (p.1, ev σ p.2)) = (List.range' 0 m).zip vs) (D : vs.length = m) (J : vs.all (fun v => Nat.beq v.cells.size K.sz) = true) (b : Nat.ble (m * K.sz) 16777216 = true)
    (L : ∀ I h, eT (tk k V) I h → fB K I h xs (vs.map (·.cells.toList)).flatten) (j : xs.length = m)
    (h : ∀ a c, TL X ops (ow K e (.slice a xs.length c) xs :: dp k V) (fx σ d (.slice a xs.length c)) rest Q) : TL X ops V σ (⟨d, .buildSlice t m parts, ty, pos, af, gd⟩ :: rest) Q :=
  oL k u hw G F M q i E D J b L j (fun g c => h (some ⟨g, 0, none⟩) c)
end
end Go.Pg
namespace Go.Pg
section
variable {X : Cx} {V : List HP} {σ : cY} {Q : Exit → cY → World → Prop} {ops : Array Oper} {rest : List Oper}
variable {d : Option Nat} {ty : TypeId} {pos : String} {af : Array Edge} {gd : Option (Nat × Bool)}
variable {α β : Type}
def j9 (σ : cY) (o : Option Operand) (a l : Int) : Prop := match o with
  | some x => ev σ x = .int .i64 l
  | none => l = a
theorem jR {P : Program} {w : World} {l : Int} {y : Nat} {code : BoundsCode} (a : 0 ≤ l) (h1 : l ≤ y) : (Instr.sliceBound (.int .i64 l) y code).run P w = .ok l.toNat w := by
  simp [Instr.sliceBound, asIntOf, a, h1]
theorem ja {P : Program} {w : World} {is : Bool} {n c : Nat} {lo g : Option Operand} {l h : Int} (a : j9 σ lo 0 l) (b : j9 σ g n h) (q : 0 ≤ l) (h1 : l ≤ h) (h2 : h ≤ n) (u : n ≤ c) :
    (Instr.sliceBounds is n c (lo.map (ev σ)) (g.map (ev σ)) none).run P w = .ok (l.toNat, h.toNat, c) w := by
  have m : ∀ y : Nat, l ≤ y → (Instr.sliceBound (.int .i64 l) y .sliceB).run P w = .ok l.toNat w := fun y e => jR q e
  cases g with
  | none =>
    have : h = n := b
    subst this
    cases lo with
    | none =>
      have : l = 0 := a
      subst this
      simp [Instr.sliceBounds]
    | some x =>
      have i : ev σ x = .int .i64 l := a
      simp [Instr.sliceBounds, i, m n h1]
  | some y =>
    have e : ev σ y = .int .i64 h := b
    have j : ∀ code, (Instr.sliceBound (.int .i64 h) c code).run P w = .ok h.toNat w := fun code => jR (by omega) (by omega)
    cases lo with
    | none =>
      have : l = 0 := a
      subst this
      simp [Instr.sliceBounds, e, j]
    | some x =>
      have i : ev σ x = .int .i64 l := a
      simp [Instr.sliceBounds, i, e, j, m h.toNat (by omega)]
theorem lL (s : aO) : (⟨s.toArray⟩ : ByteArray).size = s.length := by show s.toArray.size = _; simp
def oM (a : Option Addr) (c l sz : Nat) : Option Addr := if c = l then a else a.map (·.add (l * sz))
theorem o5 {P : Program} {w : World} {t e : TypeId} {x : Operand} {a : Option Addr} {n c sz : Nat} {lo i : Option Operand} {l h : Int} (D : km P t = some e) (u : gb P e = some sz) (F : ev σ x = .slice a n c)
    (g : j9 σ lo 0 l) (b : j9 σ i n h) (j : 0 ≤ l) (h1 : l ≤ h) (h2 : h ≤ n) (q : n ≤ c) :
    (execOp (ev σ) ⟨d, .slice t x lo i none, ty, pos, af, gd⟩).run P w = .ok (.value (.slice (oM a c l.toNat sz) (h.toNat - l.toNat) (c - l.toNat))) w := by
  have E := gp D
  have m := ja (P := P) (w := w) (is := true) g b j h1 h2 q
  simp only [execOp, Instr.sliceAt, F, Sem.run_bind, run_underlying E, Result.andThen_ok, Instr.slice, Option.map_none, m, eE u, Sem.run_pure, oM]
theorem nf {xs : List α} {l h : Int} (a : 0 ≤ l) (h1 : l ≤ h) (h2 : h ≤ xs.length) : (sub xs l h).length = h.toNat - l.toNat := by
  simp [sub]; omega
theorem qY {xs : List α} {l h : Int} (b : 0 ≤ l) (h1 : l ≤ h) (h2 : h ≤ xs.length) {j : Nat} {x : α} (a : (sub xs l h)[j]? = some x) : xs[l.toNat + j]? = some x := by
  simp only [sub, List.getElem?_drop, List.getElem?_take] at a
  split at a
  · exact a
  · cases a
theorem qZ {K : Kind α} {I : Hp} {a : Option Addr} {n c : Nat} {xs : List α} {l h : Int} (r : o0 K I (.slice a n c) xs) (m : 0 ≤ l) (h1 : l ≤ h) (h2 : h ≤ n) : o0 K I (.slice (oM a c l.toNat K.sz) (h.toNat - l.toNat) (c - l.toNat)) (sub xs l h) := by
  obtain ⟨A, L, G, T, M, D⟩ := r
  injection G with e1 e2 e3
  subst e1; subst e3; subst e2
  have e := nf m h1 h2
  refine ⟨_, _, by rw [e], by rw [e]; omega, by rw [e]; omega, fun E => ?_⟩
  rw [e] at E
  obtain ⟨g, o, rfl, b⟩ := D (by omega)
  refine ⟨g, o + l.toNat * K.sz, ?_, fun j x J => ?_⟩
  · unfold oM
    rw [if_neg (by omega)]
    simp [fi]
  · obtain ⟨cs, p, q⟩ := b _ x (qY m h1 h2 J)
    refine ⟨cs, p, fun i u F => ?_⟩
    have := q i u F
    rw [Nat.add_mul] at this
    rw [show o + l.toNat * K.sz + j * K.sz + i = o + (l.toNat * K.sz + j * K.sz) + i by omega]
    exact this
theorem gM {K : Kind α} {t e : TypeId} {x : Operand} {a : Option Addr} {n c : Nat} {lo D : Option Operand} {xs : List α} (l h : Int) (i : Nat) (L : dok X.n d = true) (hw : eA ops σ ⟨d, .slice t x lo D none, ty, pos, af, gd⟩ = true)
    (T : km X.P t = some e) (M : gb X.P e = some K.sz) (J : lk V i = aQ K (.slice a n c) xs) (U : ev σ x = .slice a n c) (E : j9 σ lo 0 l) (u : j9 σ D n h) (m : 0 ≤ l) (h1 : l ≤ h) (h2 : h ≤ n)
    (k : ∀ a' b, TL X ops (aQ K (.slice a' (sub xs l h).length b) (sub xs l h) :: V) (fx σ d (.slice a' (sub xs l h).length b)) rest Q) : TL X ops V σ (⟨d, .slice t x lo D none, ty, pos, af, gd⟩ :: rest) Q := by
  rintro w ⟨sm, I, q, g, j, lw, s⟩
  obtain ⟨g1, g2, j', p, s'⟩ := eY i s
  rw [J] at p
  have hn : n = xs.length := by obtain ⟨_, A, b, G, _⟩ := p; injection G
  have F : n ≤ c := by
    obtain ⟨_, A, b, G, hq, _⟩ := p
    injection G with _ _ e3
    omega
  refine eW L hw ?_
  rw [o5 T M U E u m h1 h2 F]
  have r := qZ p.2 m h1 h2
  have := k (oM a c l.toNat K.sz) (c - l.toNat)
  rw [nf m h1 (by omega)] at this
  exact this w ⟨sm, I, q, g, j, lw, Hp.none, q, Join.none q, ⟨rfl, r⟩, s⟩
theorem dK {t : TypeId} {x : Operand} {s : aO} (a : X.P.underlying t = some .string)
    (b : ev σ x = aJ s) : VO X V σ ⟨d, .call ⟨.builtin .len, #[x], #[t]⟩, ty, pos, af, gd⟩ (.int .i64 s.length) := by
  intro w _
  simp [execOp, resolve, invoke, builtin, b, aJ, Builtin.len_, run_underlying a, goInt, lL]
theorem cI {t : TypeId} {x y : Operand} {s : aO} {k : IntKind} {j : Int} (g : X.P.underlying t = some .string)
    (h : ev σ x = aJ s) (i : ev σ y = .int k j) (b : 0 ≤ j) (h1 : j < s.length) : VO X V σ ⟨d, .index t x y, ty, pos, af, gd⟩ (.int .u8 (bt s j)) := by
  intro w _
  have a : j.toNat < s.length := by omega
  have e : (⟨s.toArray⟩ : ByteArray)[j.toNat]? = some (ix s j) := by
    rw [ByteArray.getElem?_lt' _ _ (by rw [lL]; exact a)]
    congr 1
    show s.toArray[j.toNat] = _
    simp [ix, List.getD_eq_getElem?_getD, a]
  simp [execOp, h, i, aJ, Instr.index, asIntOf, run_underlying g, b, e, bt]
theorem fz {t : TypeId} {x : Operand} {s : aO} {lo g : Option Operand} (l h : Int)
    (m : X.P.underlying t = some .string) (q : ev σ x = aJ s) (b : j9 σ lo 0 l) (a : j9 σ g s.length h) (i : 0 ≤ l) (h1 : l ≤ h) (h2 : h ≤ s.length) : VO X V σ ⟨d, .slice t x lo g none, ty, pos, af, gd⟩ (aJ (sub s l h)) := by
  intro w _
  have j := ja (P := X.P) (w := w) (is := false) (n := s.length) (c := s.length) b a i h1 h2 (Nat.le_refl _)
  have e := lL s
  simp only [execOp, Instr.sliceAt, q, Sem.run_bind, run_underlying m, Result.andThen_ok, Instr.slice, Option.map_none, aJ, e, j, Sem.run_pure, Option.isSome_none, Bool.false_eq_true, if_false]
  rw [ByteArray.extract_mk]
  congr 3
  simp [sub, List.drop_take]
theorem oO {t : TypeId} {x y : Operand} {g : TypeId} {s u : aO}
    (b : ev σ x = aJ s) (e : ev σ y = aJ u) (a : s.length + u.length ≤ 9223372036854775807) : VO X V σ ⟨d, .binOp .add t x y g, ty, pos, af, gd⟩ (aJ (s ++ u)) := by
  intro w _
  have h := run_string_add_sum (P := X.P) (w := w) (⟨s.toArray⟩ : ByteArray) ⟨u.toArray⟩ (by rw [lL, lL]; exact a)
  simp only [execOp, b, e, aJ, eqGuard_add, binOp_string_add, Sem.run_bind, Sem.run_pure, Result.andThen_ok, h]
  rw [ByteArray.mk_append_mk]
def v6 : BinOp → aO → aO → Option Bool
  | .eql, a, b => some (a == b)
  | .neq, a, b => some (!(a == b))
  | .lss, a, b => some (Op.bytesLess a b)
  | .leq, a, b => some (Op.bytesLess a b || a == b)
  | .gtr, a, b => some (!(Op.bytesLess a b || a == b))
  | .geq, a, b => some (!Op.bytesLess a b)
  | _, _, _ => none
theorem mt {op : BinOp} {t : TypeId} {x y : Operand} {h : TypeId} {s u : aO} {b : Bool}
    (e : ev σ x = aJ s) (g : ev σ y = aJ u) (a : v6 op s u = some b) : VO X V σ ⟨d, .binOp op t x y h, ty, pos, af, gd⟩ (.bool b) := by
  intro w _
  cases op <;> simp only [v6, reduceCtorEq, Option.some.injEq] at a <;> subst a <;>
    simp [execOp, e, g, aJ, eqGuard_at_string, binOp, Op.stringOp]
theorem mu {s' t : TypeId} {x : Operand} {k a : IntKind} {n : Int} {ds : TypeDesc} (h1 : X.P.underlying s' = some ds) (h2 : X.P.underlying t = some (.int a))
    (b : ev σ x = .int k n) : VO X V σ ⟨d, .convert s' t x, ty, pos, af, gd⟩ (.int a (a.wrap n)) := by
  intro w _
  simp [execOp, b, convert, run_underlying h1, run_underlying h2, Conv.intToInt]
theorem gO {t i : TypeId} {x y : Operand} {k : IntKind} {a b : Int} (g : ev σ x = .int k a) (h : ev σ y = .int k b) (e : b ≠ 0) : VO X V σ ⟨d, .binOp .quo t x y i, ty, pos, af, gd⟩ (.int k (k.wrap (a.tdiv b))) := by
  intro w _
  simp [execOp, g, h, eqGuard_at_int, binOp, Op.intDiv, e]
theorem iC {t i : TypeId} {x y : Operand} {k : IntKind} {a b : Int} (g : ev σ x = .int k a) (h : ev σ y = .int k b) (e : b ≠ 0) : VO X V σ ⟨d, .binOp .rem t x y i, ty, pos, af, gd⟩ (.int k (a.tmod b)) := by
  intro w _
  simp [execOp, g, h, eqGuard_at_int, binOp, Op.intDiv, e]
theorem se {t m : TypeId} {x y : Operand} {k g : IntKind} {a b : Int} (i : ev σ x = .int k a) (j : ev σ y = .int g b) (h : 0 ≤ b) (e : b ≤ k.bits) : VO X V σ ⟨d, .binOp .shr t x y m, ty, pos, af, gd⟩ (.int k (a / 2 ^ b.toNat)) := by
  intro w _
  simp [execOp, i, j, eqGuard_at_int, binOp_shr, shift_shr k g a b h e]
theorem v7 {x y : Operand} {ts : Array TypeId} {k h : IntKind} {a b : Int} (e : ev σ x = .int k a) (g : ev σ y = .int h b) : VO X V σ ⟨d, .call ⟨.builtin .max, #[x, y], ts⟩, ty, pos, af, gd⟩ (.int k (if b > a then b else a)) := by
  intro w _
  simp [execOp, resolve, invoke, builtin, e, g, run_max_int2]
theorem sf {x y : Operand} {ts : Array TypeId} {k h : IntKind} {a b : Int} (e : ev σ x = .int k a) (g : ev σ y = .int h b) : VO X V σ ⟨d, .call ⟨.builtin .min, #[x, y], ts⟩, ty, pos, af, gd⟩ (.int k (if b < a then b else a)) := by
  intro w _
  simp [execOp, resolve, invoke, builtin, e, g, run_min_int2]
end
end Go.Pg
namespace Go.Pg
def FnOk {A : Type} (P : Program) (f : FuncId) (args : List Value) (b : List HP) (a : A → Value × List HP) : Prop :=
  ∀ C w V, St C w (b ++ V) → Calls P f args.toArray w (fun e g => ∃ x, e = .returned (a x).1 ∧ St C g ((a x).2 ++ V))
def bH (P : Program) (f : FuncId) : Bool := match P.funcs[f]? with
  | some fn => !(fn.name == "runtime.NumGoroutine") && fn.body.isSome
  | none => false
theorem gq {P : Program} {f : FuncId} {w : World} {args : Array Value} (h : bH P f = true) : (callFunc f args).run P w = .ok (.enter f args) w := by
  unfold bH at h
  cases hf : P.funcs[f]? with
  | none => rw [hf] at h; cases h
  | some fn =>
    rw [hf] at h
    simp only [Bool.and_eq_true, Bool.not_eq_true'] at h
    cases hb : fn.body with
    | none => rw [hb] at h; cases h.2
    | some c =>
      have h1 := h.1
      simp at h1
      simp [callFunc, hf, h1, hb]
section
variable {X : Cx} {V : List HP} {σ : cY} {Q : Exit → cY → World → Prop} {ops : Array Oper} {rest : List Oper} {o : Oper}
variable {d : Option Nat} {ty : TypeId} {pos : String} {af : Array Edge} {gd : Option (Nat × Bool)}
variable {α β : Type}
theorem kI (xs : Array Operand) (f : Operand → Value) {as : List Value} (h : xs.toList.map f = as) : xs.map f = as.toArray := by
  apply Array.ext'
  simpa using h
theorem tf {A : Type} {f : FuncId} {xs : Array Operand} {b : Array TypeId} {as : List Value} {g V' : List HP} {a : A → Value × List HP} (m : dok X.n d = true) (hw : eA ops σ ⟨d, .call ⟨.value (.func f), xs, b⟩, ty, pos, af, gd⟩ = true)
    (q : bH X.P f = true) (i : xs.toList.map (ev σ) = as) (j : FnOk X.P f as g a) (h : V = g ++ V') (k : ∀ x, TL X ops ((a x).2 ++ V') (fx σ d (a x).1) rest Q) : TL X ops V σ (⟨d, .call ⟨.value (.func f), xs, b⟩, ty, pos, af, gd⟩ :: rest) Q := by
  intro w s
  refine eW m hw ?_
  have u : (execOp (ev σ) ⟨d, .call ⟨.value (.func f), xs, b⟩, ty, pos, af, gd⟩).run X.P w = .ok (.enter f as.toArray) w := by
    show (callFunc f (#[] ++ xs.map (ev σ) ++ #[])).run X.P w = _
    rw [kI xs _ i, gq q]
    simp
  rw [u]
  subst h
  refine Calls.mono' (j X.C w V' s) ?_
  rintro e D ⟨x, rfl, s'⟩
  exact k x D s'
theorem r0 {A : Type} {f : FuncId} {h : Operand} {fs cs : List Value} {xs : Array Operand} {b : Array TypeId} {as : List Value} {g V' : List HP} {a : A → Value × List HP} (q : dok X.n d = true) (hw : eA ops σ ⟨d, .call ⟨.value h, xs, b⟩, ty, pos, af, gd⟩ = true)
    (u : bH X.P f = true) (E : ev σ h = .func (.func f) fs.toArray cs.toArray) (j : fs ++ xs.toList.map (ev σ) ++ cs = as) (m : FnOk X.P f as g a) (i : V = g ++ V') (k : ∀ x, TL X ops ((a x).2 ++ V') (fx σ d (a x).1) rest Q) : TL X ops V σ (⟨d, .call ⟨.value h, xs, b⟩, ty, pos, af, gd⟩ :: rest) Q := by
  intro w s
  refine eW q hw ?_
  have D : (execOp (ev σ) ⟨d, .call ⟨.value h, xs, b⟩, ty, pos, af, gd⟩).run X.P w = .ok (.enter f as.toArray) w := by
    have : (callFunc f (fs.toArray ++ xs.map (ev σ) ++ cs.toArray)).run X.P w = .ok (.enter f as.toArray) w := by
      rw [gq u, kI xs _ rfl, ← j]
      simp
    simp only [execOp, resolve, E, Deferred.ofValue, Sem.run_bind, Sem.run_pure, Result.andThen_ok, invoke, this]
  rw [D]
  subst i
  refine Calls.mono' (m X.C w V' s) ?_
  rintro e F ⟨x, rfl, s'⟩
  exact k x F s'
def HP.Closed (p : HP) : Prop := ∀ I J h, p.p I h → p.p J h
theorem hJ {b : Nat} {cs : List Value} {T : Nat} : (aK b cs T).Closed := fun _ _ _ h => h
theorem bL {K : Kind α} {e : Nat} {v : Value} {xs : List α} (h : K.Closed) : (ow K e v xs).Closed := fun _ _ _ o => mr h o
theorem lQ {A : List HP} (h : ∀ p ∈ A, p.Closed) {I J g : Hp} (s : eT A I g) : eT A J g := by
  induction A generalizing g with
  | nil => exact s
  | cons p A ih =>
    obtain ⟨h1, h2, j, a, b⟩ := s
    exact ⟨h1, h2, j, h p (by simp) _ _ _ a, ih (fun q e => h q (by simp [e])) b⟩
def AllC : List HP → Prop
  | [] => True
  | p :: A => p.Closed ∧ AllC A
theorem wL {A : List HP} (h : AllC A) : ∀ p ∈ A, p.Closed := by
  induction A with
  | nil => intro p a; cases a
  | cons q A ih =>
    intro p a
    rcases List.mem_cons.1 a with rfl | a
    · exact h.1
    · exact ih h.2 p a
def at_ (a : Hp) (p : HP) : HP := ⟨fun I h => Hp.le a I ∧ p.p a h, fun l h => ⟨Hp.le_trans h.1 l, h.2⟩⟩
theorem ra {e I : Hp} (l : Hp.le e I) {V : List HP} {h : Hp} (s : eT V e h) : eT (V.map (at_ e)) I h := by
  induction V generalizing h with
  | nil => exact s
  | cons p V ih =>
    obtain ⟨h1, h2, j, a, b⟩ := s
    exact ⟨h1, h2, j, ⟨l, a⟩, ih b⟩
theorem rb {e I : Hp} {V : List HP} {h : Hp} (s : eT (V.map (at_ e)) I h) : eT V e h := by
  induction V generalizing h with
  | nil => exact s
  | cons p V ih =>
    obtain ⟨h1, h2, j, a, b⟩ := s
    exact ⟨h1, h2, j, a.2, ih b⟩
def xS (g : Hp) : HP := ⟨fun I h => h = Hp.none ∧ Hp.le g I, fun l h => ⟨h.1, Hp.le_trans h.2 l⟩⟩
theorem FnOk.perm {A : Type} {P : Program} {f : FuncId} {args : List Value} {b Pre' : List HP} {a : A → Value × List HP} (e : FnOk P f args b a) (h : ∀ C w V, St C w (Pre' ++ V) → St C w (b ++ V)) : FnOk P f args Pre' a := fun C w V s => e C w V (h C w V s)
theorem FnOk.post {A B : Type} {P : Program} {f : FuncId} {args : List Value} {i : List HP} {b : A → Value × List HP} {a : B → Value × List HP} (j : FnOk P f args i b) (g : A → B) (h1 : ∀ x, (b x).1 = (a (g x)).1) (h : ∀ x C w V, St C w ((b x).2 ++ V) → St C w ((a (g x)).2 ++ V)) : FnOk P f args i a := by
  intro C w V s
  refine Calls.mono' (j C w V s) ?_
  rintro e m ⟨x, rfl, s'⟩
  exact ⟨g x, by rw [h1], h x C m V s'⟩
def my : List Value → Value
  | [v] => v
  | vs => .tuple vs.toArray
def oP (P : Program) (V : List HP) (σ : cY) : List ResultVar → List Value → Prop
  | [], [] => True
  | .tmp t :: rs, v :: vs => σ t = v ∧ oP P V σ rs vs
  | .cell a T :: rs, v :: vs => (∃ i b cs e, lk V i = aK b cs e ∧ σ a = .pointer (some ⟨b, 0, none⟩) ∧ ((fy P T = some true ∧ gb P T = some cs.length ∧ v = .agg cs.toArray) ∨ (fy P T = some false ∧ cs = [v]))) ∧ oP P V σ rs vs
  | _, _ => False
theorem jS {P : Program} {C w : World} {V : List HP} {σ : cY} (s : St C w V) : ∀ (rs : List ResultVar) (vs : List Value), oP P V σ rs vs →
    (rs.mapM (fun | .tmp t => pure (σ t) | .cell a t => do loadVar t (← asAddr (σ a)) : ResultVar → Sem Value)).run P w = .ok vs w
  | [], [], _ => rfl
  | .tmp t :: rs, v :: vs, ⟨h1, h2⟩ => by
    have := jS s rs vs h2
    simp [List.mapM_cons, this, h1]
  | .cell a T :: rs, v :: vs, ⟨⟨i, b, cs, T0, hV, ha, hv⟩, h2⟩ => by
    have := jS s rs vs h2
    have g := iA s i hV
    have D : (loadVar T ⟨b, 0, none⟩).run P w = .ok v w := by
      rcases hv with ⟨e, m, rfl⟩ | ⟨e, rfl⟩
      · exact ff e m (fun j u E => by rw [fi, iB g, Nat.zero_add]; exact E)
      · exact fe e (by rw [iB g]; rfl)
    have q : (asAddr (σ a)).run P w = .ok ⟨b, 0, none⟩ w := by rw [ha]; rfl
    simp [List.mapM_cons, this, q, D]
  | [], _ :: _, h => h.elim
  | .tmp _ :: _, [], h => h.elim
  | .cell _ _ :: _, [], h => h.elim
theorem jd {P : Program} {C w : World} {V : List HP} {σ : cY} {fn : Func} {rs : List ResultVar} {vs : List Value} (s : St C w V) (a : fn.results = rs.toArray) (h : oP P V σ rs vs) : (gI fn σ).run P w = .ok (my vs) w := by
  have := jS s rs vs h
  unfold gI
  rw [a, List.mapM_toArray]
  simp only [Sem.run_bind, Sem.run_map]
  refine (congrArg (fun r => Result.andThen (Result.andThen r _) _) this).trans ?_
  match vs with
  | [] => rfl
  | [v] => rfl
  | v :: u :: l => simp [my]
def sg (X : Cx) {A : Type} (V : List HP) (a : A → Value × List HP) : Value → World → Prop := fun v w => ∃ x, v = (a x).1 ∧ St X.C w ((a x).2 ++ V)
theorem bU {A : Type} {V0 : List HP} {a : A → Value × List HP} {fn : Func} {rs : List ResultVar} {vs : List Value} {e : Exit} (j : e = .ret ∨ e = .normal) (x : A) (b : fn.results = rs.toArray) (h : oP X.P V σ rs vs) (i : (a x).1 = my vs) (g : ∀ w, St X.C w V → St X.C w ((a x).2 ++ V0)) :
    TQ X V σ e (mm X.P fn (sg X V0 a)) := by
  intro w s
  rcases j with rfl | rfl
  · exact ⟨_, jd s b h, x, i.symm, g w s⟩
  · exact ⟨_, jd s b h, x, i.symm, g w s⟩
theorem bN {A : Type} {P : Program} {f : FuncId} {fn : Func} {c : Code} {args : List Value} {b : List HP} {a : A → Value × List HP} (j : P.funcs[f]? = some fn) (i : fn.body = some c) (n : Nat) (g : fn.ntmps = n) (m : Nat.ble args.length n = true)
    (h : ∀ C V, TC ⟨P, .of n, C⟩ (b ++ V) (oC args.toArray) c (mm P fn (sg ⟨P, .of n, C⟩ V a))) : FnOk P f args b a := by
  subst g
  intro C w V s
  refine Calls.mono' (mn j i (by have := Nat.le_of_ble_eq_true m; simpa using this) (h C V w s)) ?_
  rintro e q ⟨v, rfl, x, rfl, s'⟩
  exact ⟨x, rfl, s'⟩
theorem j1 {a : Act} {o : Oper} {n : Nn} {σ : cY} (b : dok n o.dst = true) (h1 : a.tmps.size = n.n) (h2 : a.defers = n.ds) (g : eN a = σ) (v : Value) : (a.put o.dst v).tmps.size = n.n ∧ (a.put o.dst v).defers = n.ds ∧ eN (a.put o.dst v) = fx σ o.dst v := by
  refine ⟨?_, ?_, ?_⟩
  · cases hdd : o.dst with
    | none => exact h1
    | some d => show (a.tmps.setIfInBounds d v).size = n.n; rw [Array.size_setIfInBounds, h1]
  · cases hdd : o.dst with
    | none => exact h2
    | some d => exact h2
  · rw [gX, g]
    intro d e
    rw [e] at b
    rw [h1]
    exact Nat.lt_of_lt_of_le (Nat.lt_succ_self _) (Nat.le_of_ble_eq_true b)
theorem oQ {a : Nat} {op : Op} (v : Value) (e : VO X V σ ⟨some a, op, ty, pos, af, gd⟩ v) (hw : eA ops σ ⟨some a, op, ty, pos, af, gd⟩ = true) (b : dok X.n (some a) = true) (h : TL X ops V (iW σ a v) rest Q) : TL X ops V σ (⟨some a, op, ty, pos, af, gd⟩ :: rest) Q :=
  wK b hw e h
theorem bG {b : Bool} {x y : Option α} {r : α} (h : (if b = true then x else y) = some r) : (b = true ∧ x = some r) ∨ (b = false ∧ y = some r) := by
  cases b
  · exact .inr ⟨rfl, by simpa using h⟩
  · exact .inl ⟨rfl, by simpa using h⟩
def jh (σ : cY) : List (Nat × Value) → Prop
  | [] => True
  | (t, v) :: l => σ t = v ∧ jh σ l
theorem hK {σ : cY} {l : List (Nat × Value)} (h : jh σ l) : lv σ l = σ := by
  induction l with
  | nil => rfl
  | cons p l ih =>
    obtain ⟨t, v⟩ := p
    show iW (lv σ l) t v = σ
    rw [ih h.2]
    exact oz σ t h.1
def Jn (X : Cx) {A : Type} (pf : A → Prop) (e : A → List (Nat × Value)) (b : A → List HP) : cY → World → Prop := fun σ w => ∃ a, pf a ∧ jh σ (e a) ∧ St X.C w (b a)
theorem bS {A : Type} {x y : Code} (pf : A → Prop) (g : A → List (Nat × Value)) (b : A → List HP) (i : TC X V σ x (fK (Jn X pf g b) Q)) (j : ∀ a σ', pf a → TC X (b a) (lv σ' (g a)) y Q) : TC X V σ x (fK (Nx X y Q) Q) := by
  intro w s
  refine W.mono (i w s) ?_
  intro e σ' m q
  cases e with
  | normal =>
    obtain ⟨a, h, h1, h2⟩ := q
    have := j a σ' h m h2
    rw [hK h1] at this
    exact this
  | _ => exact q
theorem eF {A : Type} {pf : A → Prop} {e : A → List (Nat × Value)} {b : A → List HP} (a : A) (g : pf a) (h1 : jh σ (e a)) (h2 : ∀ w, St X.C w V → St X.C w (b a)) : TQ X V σ .normal (fK (Jn X pf e b) Q) := fun w s => ⟨a, g, h1, h2 w s⟩
def wM (X : Cx) {S E A : Type} (b : S ⊕ E) (g : S → A → List (Nat × Value)) (e : S → A → List HP) : cY → World → Prop := fun σ w => ∃ s a, b = .inl s ∧ jh σ (g s a) ∧ St X.C w (e s a)
theorem bQ {S E A : Type} {f : S → Option (S ⊕ E)} {i : S} {e : E} {c : Code} (G : bC f i = some e) (j : S → A → List (Nat × Value)) (h : S → A → List HP) (a0 : A) (h1 : jh σ (j i a0)) (h2 : ∀ w, St X.C w V → St X.C w (h i a0))
    (g : ∀ s a σ' out, f s = some out → (∀ m, out = .inr m → m = e) → TC X (h s a) (lv σ' (j s a)) c (fK (wM X out j h) Q)) : TC X V σ (.loop c) Q := by
  intro w st
  obtain ⟨k, F⟩ := jM G
  refine t8 (fun k σ w => ∃ s a, ge f k s = some e ∧ jh σ (j s a) ∧ St X.C w (h s a)) k ⟨i, a0, F, h1, h2 w st⟩ ?_
  rintro k σ' L ⟨s, a, b, g1, u⟩
  cases k with
  | zero => cases b
  | succ k =>
    simp only [ge] at b
    cases hf : f s with
    | none => rw [hf] at b; cases b
    | some out =>
      rw [hf] at b
      have := g s a σ' out hf (fun m D => by subst D; exact Option.some.inj b) L u
      rw [hK g1] at this
      refine W.mono this ?_
      intro ex σ'' M q
      cases ex with
      | normal =>
        obtain ⟨s', a', rfl, I, J⟩ := q
        exact ⟨k, Nat.lt_succ_self k, s', a', b, I, J⟩
      | _ => exact q
theorem re {S E A : Type} {e : S → A → List (Nat × Value)} {b : S → A → List HP} {s : S} (a : A) (h1 : jh σ (e s a)) (h2 : ∀ w, St X.C w V → St X.C w (b s a)) : TQ X V σ .normal (fK (wM X (E := E) (.inl s) e b) Q) := fun w st => ⟨s, a, rfl, h1, h2 w st⟩
end
end Go.Pg
namespace Go.Pg
section
variable {P : Program} {ops : Array Oper} {Q : Exit → Act → World → Prop} {S : World → Prop} {k : Nat}
def Shut (ops : Array Oper) (listed : Array Bool) : Prop := ∀ j o, ops[j]? = some o → listed.getD j false = true → ∀ e ∈ o.after, Region.binds .any e = true → listed.getD e.on false = true
def kw (ops : Array Oper) : Nat → Nat → Nat → Bool
  | 0, _, _ => false
  | f + 1, j, i => match ops[j]? with
    | some o => o.after.any (fun e => Region.binds .any e && e.on == i) || o.after.any (fun e => Region.binds .any e && kw ops f e.on i)
    | none => false
theorem iD {listed : Array Bool} (E : Shut ops listed) : ∀ (f j i : Nat) (o : Oper), ops[j]? = some o → (∀ e ∈ o.after, Region.binds .any e = true → listed.getD e.on false = true) → kw ops f j i = true → listed.getD i false = true := by
  intro f
  induction f with
  | zero => intro j i o _ _ h; cases h
  | succ f ih =>
    intro j i o D m h
    simp only [kw, D, Bool.or_eq_true, Array.any_eq_true', Bool.and_eq_true, beq_iff_eq] at h
    rcases h with ⟨e, b, a, q⟩ | ⟨e, b, a, g⟩
    · rw [← q]; exact m e b a
    · have u := m e b a
      cases hoe : ops[e.on]? with
      | none =>
        cases f with
        | zero => cases g
        | succ f => simp [kw, hoe] at g
      | some o' => exact ih e.on i o' hoe (E e.on o' hoe u) g
def gj (ops : Array Oper) (k : Nat) : Bool := (List.range ops.size).all fun j => Nat.blt j k || (List.range k).all fun i => kw ops ops.size j i
def jT (ops : Array Oper) (k i : Nat) : Bool := (List.range ops.size).all fun j => Nat.blt j k || kw ops ops.size j i
theorem ng {ops : Array Oper} {k i : Nat} (h : gj ops k = true) (a : Nat.blt i k = true) : jT ops k i = true := by
  simp only [gj, jT, List.all_eq_true, List.mem_range, Bool.or_eq_true] at h ⊢
  intro j b
  rcases h j b with h | h
  · exact .inl h
  · exact .inr (h i (Nat.lt_of_lt_of_le (Nat.lt_succ_self _) (Nat.le_of_ble_eq_true a)))
theorem Shut.step {listed : Array Bool} {j : Nat} (h : Shut ops listed) (u : j ∈ Region.ready .any ops listed) : Shut ops (listed.setIfInBounds j true) := by
  obtain ⟨_, o, D, q⟩ := mem_ready.1 u
  intro i o' a m e g b
  by_cases hij : i = j
  · subst hij
    rw [D] at a
    obtain rfl := Option.some.inj a
    exact getD_set_true (q e g b)
  · rw [getD_set_ne false (Ne.symm hij)] at m
    exact getD_set_true (h i o' a m e g b)
def kJ (ops : Array Oper) (k : Nat) (listed : Array Bool) : Bool := (List.range ops.size).all fun j => Nat.blt j k || !listed.getD j false
theorem lR {listed : Array Bool} {i : Nat} (a : Nat.blt i k = true) (h : kJ ops k listed = true) : kJ ops k (listed.setIfInBounds i true) = true := by
  simp only [kJ, List.all_eq_true, List.mem_range, Bool.or_eq_true, Bool.not_eq_true'] at h ⊢
  intro j b
  by_cases hji : j = i
  · subst hji; exact .inl a
  · rw [getD_set_ne false (Ne.symm hji)]; exact h j b
def gP (P : Program) (ops : Array Oper) (Q : Exit → Act → World → Prop) (S : World → Prop) (k : Nat) : Nat → Array Bool → Act → World → Prop
  | 0, listed, a, w => Region.ready .any ops listed = [] ∧ Q .normal a w
  | fuel + 1, listed, a, w =>
    (Region.ready .any ops listed = [] → Q .normal a w) ∧
    ∀ i ∈ Region.ready .any ops listed, wpOp P ops Q i (fun a' b => (Nat.blt i k = true → kJ ops k listed = true → S b) ∧ gP P ops Q S k fuel (listed.setIfInBounds i true) a' b) a w
theorem ic : ∀ (fuel : Nat) (listed : Array Bool) (a : Act) (w : World), gP P ops Q S k fuel listed a w → wpAny P .any ops Q fuel listed a w
  | 0, _, _, _, h => h
  | fuel + 1, _, _, _, h => ⟨h.1, fun i e => wpOp_mono (fun a' g b => ic fuel _ a' g b.2) (h.2 i e)⟩
theorem iE {i : Nat} {U : Oper} {v : Value} (hi : ops[i]? = some U) (a0 : Nat.blt i k = true) (ht : jT ops k i = true) (I : ∀ (j : Nat) (o : Oper) cs b, ops[j]? = some o → o.op ≠ .select cs b)
    (hQ : ∀ c a w, Q (.panic c) (a.put U.dst v) w → Q (.panic c) a w) :
    ∀ (fuel : Nat) (listed : Array Bool) (a : Act) (w : World), Shut ops listed →
      (∀ j J, ops[j]? = some J → j ≠ i → listed.getD j true = false → (∀ e ∈ J.after, Region.binds .any e = true → e.on ≠ i) → U.apart ops J = true) →
      i ∈ Region.ready .any ops listed → YieldsIf P ops S U v a → S w →
      gP P ops Q S k fuel (listed.setIfInBounds i true) (a.put U.dst v) w → gP P ops Q S k (fuel + 1) listed a w := by
  intro fuel
  induction fuel with
  | zero =>
    intro listed a w _ _ T hy hS H
    refine ⟨fun h => (by rw [h] at T; cases T), fun j hj => ?_⟩
    by_cases hji : j = i
    · subst hji; exact hy.wpOp hi hS ⟨fun _ _ => hS, H⟩
    · have := ready_mono hj hji
      rw [H.1] at this
      cases this
  | succ fuel ih =>
    intro listed a w D g T hy hS H
    refine ⟨fun h => (by rw [h] at T; cases T), fun j hj => ?_⟩
    by_cases hji : j = i
    · subst hji; exact hy.wpOp hi hS ⟨fun _ _ => hS, H⟩
    · have h1 := H.2 j (ready_mono hj hji)
      obtain ⟨G, J, q, F⟩ := mem_ready.1 hj
      have h0 := (mem_ready.1 T).1
      have M : listed.getD i false = true → False := fun h1 => by
        rcases Nat.lt_or_ge i listed.size with h' | h'
        · simp [h'] at h0 h1; rw [h0] at h1; cases h1
        · simp [Array.getElem?_eq_none h'] at h1
      have a4 : Nat.blt j k = true := by
        cases hb : Nat.blt j k with
        | true => rfl
        | false =>
          simp only [jT, List.all_eq_true, List.mem_range, Bool.or_eq_true] at ht
          have E := (ht j (Array.getElem?_eq_some_iff.1 q).1).resolve_left (by rw [hb]; exact fun h => by cases h)
          exact (M (iD D _ j i J q F E)).elim
      have L : kJ ops k listed = true := by
        simp only [kJ, List.all_eq_true, List.mem_range, Bool.or_eq_true, Bool.not_eq_true']
        intro m hm
        cases hb : Nat.blt m k with
        | true => exact .inl rfl
        | false =>
          refine .inr ?_
          cases hl : listed.getD m false with
          | false => rfl
          | true =>
            simp only [jT, List.all_eq_true, List.mem_range, Bool.or_eq_true] at ht
            have E := (ht m hm).resolve_left (by rw [hb]; exact fun h => by cases h)
            have ho := Array.getElem?_eq_getElem hm
            exact (M (iD D _ m i _ ho (D m _ ho hl) E)).elim
      have a1 : ∀ e ∈ J.after, Region.binds .any e = true → e.on ≠ i := fun e he hb a3 => M (a3 ▸ F e he hb)
      have h2 := wpOp_putIf q (g j J q hji G a1) (fun cs b => I i U cs b hi) (fun cs b => I j J cs b q) hQ hy h1
      have u : ∀ m ok, ops[m]? = some ok → m ≠ i → (listed.setIfInBounds j true).getD m true = false →
          (∀ e ∈ ok.after, Region.binds .any e = true → e.on ≠ i) → U.apart ops ok = true := fun m ok hk a5 a2 a6 => by
        refine g m ok hk a5 ?_ a6
        by_cases hjm : j = m
        · subst hjm; exact G
        · rw [getD_set_ne true hjm] at a2; exact a2
      refine wpOp_mono (fun a' w' E => ⟨fun q1 q2 => E.2.1 q1 (lR a0 q2), ih (listed.setIfInBounds j true) a' w' (D.step hj) u (ready_mono T (Ne.symm hji)) E.1 (E.2.1 a4 (lR a0 L)) ?_⟩) h2
      rw [Array.setIfInBounds_comm _ _ hji]
      exact E.2.2
end
def NP (Q : Exit → cY → World → Prop) : Exit → cY → World → Prop
  | .panic _, _, _ => False
  | .outgrown, _, _ => False
  | e, σ, w => Q e σ w
def TD (X : Cx) (ops : Array Oper) (k : Nat) (V0 : List HP) (fuel : Nat) (listed : Array Bool) (V : List HP) (σ : cY) (Q : Exit → cY → World → Prop) : Prop :=
  ∀ a w, a.tmps.size = X.n.n → a.defers = X.n.ds → eN a = σ → Shut ops listed → St X.C w V → gP X.P ops (fq X.n (NP Q)) (fun w => St X.C w V0) k fuel listed a w
def DK (X : Cx) (ops : Array Oper) (k : Nat) (V0 : List HP) (fuel : Nat) (listed : Array Bool) (i : Nat) (Q : Exit → cY → World → Prop) : Exit → cY → World → Prop
  | .normal, σ, w => ∀ a, a.tmps.size = X.n.n → a.defers = X.n.ds → eN a = σ → Shut ops (listed.setIfInBounds i true) → (Nat.blt i k = true → kJ ops k listed = true → St X.C w V0) ∧ gP X.P ops (fq X.n (NP Q)) (fun w => St X.C w V0) k fuel (listed.setIfInBounds i true) a w
  | .panic _, _, _ => False
  | .outgrown, _, _ => False
  | e, σ, w => Q e σ w
def v8 (X : Cx) (ops : Array Oper) (k : Nat) (V0 : List HP) (fuel : Nat) (listed : Array Bool) (V : List HP) (σ : cY) (Q : Exit → cY → World → Prop) : List Nat → Prop
  | [] => True
  | i :: is => (match ops[i]? with
    | some o => TL X ops V σ [o] (DK X ops k V0 fuel listed i Q)
    | none => False) ∧ v8 X ops k V0 fuel listed V σ Q is
section
variable {X : Cx} {V V0 : List HP} {σ : cY} {Q : Exit → cY → World → Prop} {ops : Array Oper} {o : Oper} {k fuel : Nat} {listed : Array Bool}
variable {d : Nat} {op : Op} {ty : TypeId} {pos : String} {af : Array Edge} {gd : Option (Nat × Bool)}
theorem tg {id : Nat} {l : List Oper} (k : Nat) (V0 : List HP) (u : X.P.follows .mixedOrders = true) (b : (gj l.toArray k && Region.noSelect l.toArray) = true)
    (h : gj l.toArray k = true → Region.noSelect l.toArray = true → TD X l.toArray k V0 l.length (Array.replicate l.length false) V σ Q) : TC X V σ (.region id l.toArray true) Q := by
  intro w s a h1 h2 m
  rw [Bool.and_eq_true] at b
  refine wp_mono (P := X.P) (Q := fq X.n (NP Q)) (wp_region_any u (ic (S := fun w => St X.C w V0) (k := k) _ _ _ _ ?_)) ?_
  · have := h b.1 b.2 a w.drew h1 h2 m (fun j o _ g => by
      exfalso
      by_cases hj : j < l.length
      · simp [Array.getElem?_replicate, hj] at g
      · simp [Array.getElem?_replicate, hj] at g) s.drew
    simpa using this
  · rintro e a w q
    refine gY q fun i => ?_
    cases e <;> first | exact i | exact i.elim
theorem th (e : Region.ready .any ops listed = []) (h : TQ X V σ .normal Q) : TD X ops k V0 fuel listed V σ Q := by
  intro a w h1 h2 g _ s
  have b : fq X.n (NP Q) .normal a w := .inl ⟨h1, h2, by rw [g]; exact h w s⟩
  cases fuel with
  | zero => exact ⟨e, b⟩
  | succ fuel => exact ⟨fun _ => b, by rw [e]; intro i j; cases j⟩
theorem wO (i : Nat) (v : Value) (m : ops[i]? = some ⟨some d, op, ty, pos, af, gd⟩) (G : VO X V0 σ ⟨some d, op, ty, pos, af, gd⟩ v) (hw : eA ops σ ⟨some d, op, ty, pos, af, gd⟩ = true) (D : dok X.n (some d) = true)
    (j : Nat.blt i k = true) (F : jT ops k i = true) (E : Region.noSelect ops = true) (g : (Region.free .any ops listed i && (Region.ready .any ops listed).contains i) = true) (hS : ∀ w, St X.C w V → St X.C w V0)
    (h : TD X ops k V0 fuel (listed.setIfInBounds i true) V (iW σ d v) Q) : TD X ops k V0 (fuel + 1) listed V σ Q := by
  intro a w h1 h2 e b s
  rw [Bool.and_eq_true] at g
  obtain ⟨p1, I, J⟩ := j1 (o := ⟨some d, op, ty, pos, af, gd⟩) D h1 h2 e v
  have u : i ∈ Region.ready .any ops listed := by simpa using g.2
  refine iE (v := v) m j F (Region.noSelect_spec E) ?_ fuel listed a w b (Region.free_spec m g.1) u ?_ (hS w s) (h _ w p1 I J (b.step u) s)
  · rintro c a w q
    exact (eZ q (by simp)).2.2.elim
  · exact .inl ⟨by rw [gm, e]; exact hw, fun w s => by rw [gH, e]; exact G w s⟩
theorem xT (i : Nat) (v : Value) (g : ops[i]? = some ⟨some d, op, ty, pos, af, gd⟩) (q : VO X V0 σ ⟨some d, op, ty, pos, af, gd⟩ v) (hw : eA ops σ ⟨some d, op, ty, pos, af, gd⟩ = true) (b : dok X.n (some d) = true)
    (a : Nat.blt i k = true) (m : gj ops k = true) (j : Region.noSelect ops = true) (e : (Region.free .any ops listed i && (Region.ready .any ops listed).contains i) = true) (hS : ∀ w, St X.C w V → St X.C w V0)
    (h : TD X ops k V0 fuel (listed.setIfInBounds i true) V (iW σ d v) Q) : TD X ops k V0 (fuel + 1) listed V σ Q :=
  wO i v g q hw b a (ng m a) j e hS h
theorem tj (i : Nat) (m : ops[i]? = some ⟨some d, op, ty, pos, af, gd⟩) (hw : eA ops σ ⟨some d, op, ty, pos, af, gd⟩ = false) (D : dok X.n (some d) = true)
    (g : Nat.blt i k = true) (F : jT ops k i = true) (E : Region.noSelect ops = true) (e : (Region.free .any ops listed i && (Region.ready .any ops listed).contains i) = true) (hS : ∀ w, St X.C w V → St X.C w V0)
    (h : TD X ops k V0 fuel (listed.setIfInBounds i true) V (iW σ d undef) Q) : TD X ops k V0 (fuel + 1) listed V σ Q := by
  intro a w h1 h2 j b s
  rw [Bool.and_eq_true] at e
  obtain ⟨p1, G, I⟩ := j1 (o := ⟨some d, op, ty, pos, af, gd⟩) D h1 h2 j undef
  have u : i ∈ Region.ready .any ops listed := by simpa using e.2
  refine iE (v := undef) m g F (Region.noSelect_spec E) ?_ fuel listed a w b (Region.free_spec m e.1) u ?_ (hS w s) (h _ w p1 G I (b.step u) s)
  · rintro c a w q
    exact (eZ q (by simp)).2.2.elim
  · exact .inr ⟨by rw [gm, j]; exact hw, rfl⟩
theorem va (i : Nat) (g : ops[i]? = some ⟨some d, op, ty, pos, af, gd⟩) (hw : eA ops σ ⟨some d, op, ty, pos, af, gd⟩ = false) (b : dok X.n (some d) = true)
    (a : Nat.blt i k = true) (m : gj ops k = true) (j : Region.noSelect ops = true) (e : (Region.free .any ops listed i && (Region.ready .any ops listed).contains i) = true) (hS : ∀ w, St X.C w V → St X.C w V0)
    (h : TD X ops k V0 fuel (listed.setIfInBounds i true) V (iW σ d undef) Q) : TD X ops k V0 (fuel + 1) listed V σ Q :=
  tj i g hw b a (ng m a) j e hS h
theorem i0 (rs : List Nat) (g : Region.ready .any ops listed = rs) (F : Nat.blt 0 rs.length = true) (h : v8 X ops k V0 fuel listed V σ Q rs) : TD X ops k V0 (fuel + 1) listed V σ Q := by
  intro a w h1 h2 h3 J s
  refine ⟨fun h0 => (by rw [g] at h0; rw [h0] at F; cases F), fun i G => ?_⟩
  have D := G
  rw [g] at G
  clear g F
  induction rs with
  | nil => cases G
  | cons j rs ih =>
    rcases List.mem_cons.1 G with rfl | G
    · have hj := h.1
      obtain ⟨_, o, ho, _⟩ := mem_ready.1 D
      rw [ho] at hj
      have E := hj w s a h1 h2 h3
      unfold wpOp
      simp only [ho]
      unfold wpList at E
      split
      · rename_i hw
        rw [if_pos hw] at E
        have up : ∀ r, o.upon X.P a (wpList X.P ops (fq X.n (DK X ops k V0 fuel listed i Q)) []) (fq X.n (DK X ops k V0 fuel listed i Q)) r →
            o.upon X.P a (fun a' m => (Nat.blt i k = true → kJ ops k listed = true → St X.C m V0) ∧ gP X.P ops (fq X.n (NP Q)) (fun w => St X.C w V0) k fuel (listed.setIfInBounds i true) a' m) (fq X.n (NP Q)) r := by
          have hq : ∀ c a w, fq X.n (DK X ops k V0 fuel listed i Q) (.panic c) a w → fq X.n (NP Q) (.panic c) a w := by
            rintro c a w q
            exact (eZ q (by simp)).2.2.elim
          have I : ∀ a' m, wpList X.P ops (fq X.n (DK X ops k V0 fuel listed i Q)) [] a' m → (Nat.blt i k = true → kJ ops k listed = true → St X.C m V0) ∧ gP X.P ops (fq X.n (NP Q)) (fun w => St X.C w V0) k fuel (listed.setIfInBounds i true) a' m := by
            rintro a' m q
            obtain ⟨T, U, q3⟩ := eZ q (by simp)
            exact q3 a' T U rfl (J.step D)
          intro r g
          match r, g with
          | .ok (.value v) m, g => exact I _ _ g
          | .ok .skip m, g => exact I _ _ g
          | .ok (.defer _) m, g => exact I _ _ g
          | .ok (.enter f args) m, g =>
            refine Calls.mono' g ?_
            intro e a0 M
            cases e with
            | returned v => exact I _ _ M
            | panicked c => exact hq _ _ _ M
            | outgrown =>
              obtain ⟨b, u, L⟩ := M
              exact (eZ L (by simp)).2.2.elim
          | .ok (.row row args) m, g => exact Rows.mono g fun v a0 h => I _ _ h
          | .halt (.panic v) m, g => exact hq _ _ _ g
        rcases E with E | ⟨h1, b, u, L⟩
        · exact .inl (up _ E)
        · exact (eZ L (by simp)).2.2.elim
      · rename_i hw
        rw [if_neg hw] at E
        obtain ⟨T, U, q3⟩ := eZ E (by simp)
        exact q3 _ T U rfl (J.step D)
    · exact ih h.2 G
theorem vc (i : Nat) (b : Region.ready .any ops listed = [i]) (a : ops[i]? = some o) (h : TL X ops V σ [o] (DK X ops k V0 fuel listed i Q)) : TD X ops k V0 (fuel + 1) listed V σ Q :=
  i0 [i] b rfl ⟨by rw [a]; exact h, trivial⟩
theorem aP {i : Nat} (hS : ∀ w, St X.C w V → St X.C w V0) (h : TD X ops k V0 fuel (listed.setIfInBounds i true) V σ Q) : TQ X V σ .normal (DK X ops k V0 fuel listed i Q) :=
  fun w s a h1 h2 b e => ⟨fun _ _ => hS w s, h a w h1 h2 b e s⟩
theorem tl {i : Nat} (g : Nat.blt i k = false) (h : TD X ops k V0 fuel (listed.setIfInBounds i true) V σ Q) : TQ X V σ .normal (DK X ops k V0 fuel listed i Q) :=
  fun w s a h1 h2 b e => ⟨fun h => (by rw [g] at h; cases h), h a w h1 h2 b e s⟩
end
end Go.Pg
namespace Go.Pg
section
variable {α : Type} {K : Kind α} {C w : World} {V : List HP}
theorem St.len {a : Option Addr} {n c : Nat} {xs : List α} (s : St C w V) (i : Nat) (h : gC (lk V i) K (.slice a n c) xs) : n = xs.length := by
  obtain ⟨J, lw, A, e, b, h2, g, j⟩ := s.reads h
  injection b
theorem St.cap {a : Option Addr} {n c : Nat} {xs : List α} (s : St C w V) (i : Nat) (h : gC (lk V i) K (.slice a n c) xs) : n ≤ 9223372036854775807 := by
  obtain ⟨J, lw, A, g, e, h2, b, j⟩ := s.reads h
  have : n = xs.length := by injection e
  simp only [maxLen] at b
  omega
theorem St.dup {v : Value} {xs : List α} (s : St C w V) (i : Nat) (e : lk V i = aQ K v xs) : St C w (aQ K v xs :: V) := by
  obtain ⟨a, I, b, g, j, l, s⟩ := s
  obtain ⟨h1, h2, h, p, s'⟩ := eY i s
  rw [e] at p
  exact ⟨a, I, b, g, j, l, Hp.none, b, Join.none b, ⟨rfl, p.2⟩, s⟩
theorem St.shr {e : Nat} {v : Value} {xs : List α} (s : St C w V) (i : Nat) (a : lk V i = ow K e v xs) : St C w (aQ K v xs :: Pg.rm V i) := by
  have := s.mv i
  unfold Pg.mv at this
  rw [a] at this
  exact St.share this (fun I J b l m p => ⟨rfl, iy l m p⟩)
theorem St.nilo (s : St C w V) (K : Kind α) (e : Nat) : St C w (ow K e (.slice none 0 0) [] :: V) :=
  St.new s id (fun I _ => ⟨Hp.none, .inl ⟨none, rfl, rfl, rfl⟩, fun _ _ e => (by cases e), fun _ h => absurd rfl h⟩) (fun _ _ h => h)
theorem St.nilr (s : St C w V) (K : Kind α) : St C w (aQ K (.slice none 0 0) [] :: V) :=
  St.new s id (fun I _ => ⟨Hp.none, ⟨rfl, none, 0, rfl, Nat.le_refl _, Nat.zero_le _, fun h => absurd h (Nat.lt_irrefl _)⟩, fun _ _ e => (by cases e), fun _ h => absurd rfl h⟩) (fun _ _ h => h)
end
section
variable {X : Cx} {V : List HP} {σ : cY} {Q : Exit → cY → World → Prop} {ops : Array Oper} {rest : List Oper} {o : Oper} {cd : Code} {ex : Exit}
variable {d : Option Nat} {ty : TypeId} {pos : String} {af : Array Edge} {gd : Option (Nat × Bool)}
variable {α β : Type}
theorem aY {K : Kind α} {a : Option Addr} {n c : Nat} {xs : List α} (i : Nat) (b : gC (lk V i) K (.slice a n c) xs) (h : n = xs.length → TL X ops V σ rest Q) : TL X ops V σ rest Q := fun w s => h (s.len i b) w s
theorem cD {K : Kind α} {a : Option Addr} {n c : Nat} {xs : List α} (i : Nat) (b : gC (lk V i) K (.slice a n c) xs) (h : n = xs.length → TC X V σ cd Q) : TC X V σ cd Q := fun w s => h (s.len i b) w s
theorem je {K : Kind α} {a : Option Addr} {n c : Nat} {xs : List α} (i : Nat) (b : gC (lk V i) K (.slice a n c) xs) (h : n = xs.length → TQ X V σ ex Q) : TQ X V σ ex Q := fun w s => h (s.len i b) w s
theorem ie {V' : List HP} (f : ∀ w, St X.C w V → St X.C w V') (h : TL X ops V' σ rest Q) : TL X ops V σ rest Q := fun w s => h w (f w s)
theorem mz {V' : List HP} (f : ∀ w, St X.C w V → St X.C w V') (h : TC X V' σ cd Q) : TC X V σ cd Q := fun w s => h w (f w s)
theorem wP {V' : List HP} (f : ∀ w, St X.C w V → St X.C w V') (h : TQ X V' σ ex Q) : TQ X V σ ex Q := fun w s => h w (f w s)
theorem cU {A : Type} {f : FuncId} {xs : Array Operand} {e : Array TypeId} {as : List Value} {b : List HP} {a : A → Value × List HP} (m : Nat) (j : dok X.n d = true) (hw : eA ops σ ⟨d, .call ⟨.value (.func f), xs, e⟩, ty, pos, af, gd⟩ = true)
    (q : bH X.P f = true) (h : xs.toList.map (ev σ) = as) (i : FnOk X.P f as b a) (g : tk m V = b) (k : ∀ x, TL X ops ((a x).2 ++ dp m V) (fx σ d (a x).1) rest Q) : TL X ops V σ (⟨d, .call ⟨.value (.func f), xs, e⟩, ty, pos, af, gd⟩ :: rest) Q :=
  tf j hw q h i (by rw [← g, kv]) k
theorem iF {A : Type} {f : FuncId} {g : Operand} {fs cs : List Value} {xs : Array Operand} {e : Array TypeId} {as : List Value} {b : List HP} {a : A → Value × List HP} (m : Nat) (q : dok X.n d = true) (hw : eA ops σ ⟨d, .call ⟨.value g, xs, e⟩, ty, pos, af, gd⟩ = true)
    (u : bH X.P f = true) (D : ev σ g = .func (.func f) fs.toArray cs.toArray) (i : fs ++ xs.toList.map (ev σ) ++ cs = as) (j : FnOk X.P f as b a) (h : tk m V = b) (k : ∀ x, TL X ops ((a x).2 ++ dp m V) (fx σ d (a x).1) rest Q) : TL X ops V σ (⟨d, .call ⟨.value g, xs, e⟩, ty, pos, af, gd⟩ :: rest) Q :=
  r0 q hw u D i j (by rw [← h, kv]) k
theorem AllC.append {A B : List HP} (a : AllC A) (b : AllC B) : AllC (A ++ B) := by
  induction A with
  | nil => exact b
  | cons p A ih => exact ⟨a.1, ih a.2⟩
theorem nh {c a b : Operand} {k : Bool} {v e : Value} (h : ev σ c = .bool k) (j : k = true) (g : ev σ a = e) (i : e = v) : VO X V σ ⟨d, .pick c a b, ty, pos, af, gd⟩ v := gJ (by
  simp only [pv, h, j, g, i, cond_true])
theorem ni {c a b : Operand} {k : Bool} {v e : Value} (h : ev σ c = .bool k) (j : k = false) (g : ev σ b = e) (i : e = v) : VO X V σ ⟨d, .pick c a b, ty, pos, af, gd⟩ v := gJ (by
  simp only [pv, h, j, g, i, cond_false])
theorem tm {t m : TypeId} {x y : Operand} {a : Option Addr} {n c : Nat} {e : TypeId} (g : km X.P t = some e) (i : ev σ x = .slice a n c) (j : ev σ y = .slice none 0 0) : VO X V σ ⟨d, .binOp .eql t x y m, ty, pos, af, gd⟩ (.bool a.isNone) := by
  intro w _
  have h := gp g
  have b : (Op.equal t (.slice a n c) (.slice none 0 0)).run X.P w = .ok a.isNone w := by
    unfold Op.equal
    rw [show Op.maxDepth = 9999 + 1 from rfl]
    unfold Op.equalIn
    rw [Sem.run_bind, run_underlying h]
    cases a <;> rfl
  cases a <;> simp [execOp, i, j, eqGuard, binOp, b]
end
end Go.Pg
namespace Go.Pg
def fL (P : Program) (T : TypeId) : Option (List (Nat × Nat)) := match P.underlying T with
  | some (.struct fs) => fs.toList.mapM fun f => (P.info? f.type).map fun i => (f.offset, i.size)
  | _ => none
def nj (ps : List (Nat × Nat)) : List Value → List (Nat × Value) → Option (List Value)
  | z, [] => some z
  | z, (i, v) :: rest => match oF ps i with
    | some (off, sz) => cond (Nat.beq v.cells.toList.length sz && Nat.ble (off + sz) z.length) (nj ps (z.take off ++ v.cells.toList ++ z.drop (off + sz)) rest) none
    | none => none
theorem oR : ∀ (l : List Value) (a j : Nat) (cs : Array Value), a + j + l.length ≤ cs.size →
    ((l.zipIdx j).foldl (fun cs (c, j) => cs.setIfInBounds (a + j) c) cs).toList = cs.toList.take (a + j) ++ l ++ cs.toList.drop (a + j + l.length) := by
  intro l
  induction l with
  | nil => intro a j cs _; simp
  | cons u l ihl =>
    intro a j cs b
    simp only [List.zipIdx_cons, List.foldl_cons]
    rw [ihl a (j + 1) _ (by simp at *; omega)]
    simp only [List.length_cons] at b
    rw [Array.toList_setIfInBounds, show a + (j + 1) = (a + j) + 1 by omega, List.take_succ_eq_append_getElem (by simp; omega), List.take_set_of_le (Nat.le_refl _), List.drop_set_of_lt (by omega)]
    simp [Nat.add_assoc, Nat.add_comm, Nat.add_left_comm]
theorem tn {ps : List (Nat × Nat)} : ∀ (parts : List (Nat × Value)) (z : Array Value) (cs : List Value), nj ps z.toList parts = some cs → ∃ r, Instr.fill (ps.toArray[·]?) z parts = some r ∧ r.toList = cs := by
  intro parts
  induction parts with
  | nil => intro z cs h; exact ⟨z, rfl, Option.some.inj h⟩
  | cons p parts ih =>
    intro z cs h
    obtain ⟨i, v⟩ := p
    unfold nj at h
    rw [iY] at h
    unfold Instr.fill
    have e : ps.toArray[i]? = ps[i]? := by simp
    simp only [e]
    cases hp : ps[i]? with
    | none => rw [hp] at h; cases h
    | some q =>
      obtain ⟨a, sz⟩ := q
      rw [hp] at h
      simp only at h ⊢
      cases hb : (Nat.beq v.cells.toList.length sz && Nat.ble (a + sz) z.toList.length) with
      | false => rw [hb] at h; cases h
      | true =>
        rw [hb] at h
        simp only [cond_true, Bool.and_eq_true] at h hb
        have h1 : v.cells.size = sz := by simpa using Nat.eq_of_beq_eq_true hb.1
        have h2 : a + sz ≤ z.size := by simpa using Nat.le_of_ble_eq_true hb.2
        have b : ¬ (v.cells.size ≠ sz ∨ a + v.cells.size > z.size) := by rw [h1]; omega
        rw [if_neg (by simpa using b)]
        have g : v.cells.zipIdx.foldl (fun cs (c, j) => cs.setIfInBounds (a + j) c) z = (v.cells.toList.zipIdx 0).foldl (fun cs (c, j) => cs.setIfInBounds (a + j) c) z := by
          rw [← Array.foldl_toList]
          congr 1
          simp
        rw [g]
        refine ih _ cs ?_
        rw [oR _ _ _ _ (by simp [h1]; omega)]
        simpa [h1] using h
section
variable {X : Cx} {V : List HP} {σ : cY} {Q : Exit → cY → World → Prop} {ops : Array Oper} {rest : List Oper} {o : Oper}
variable {d : Option Nat} {ty : TypeId} {pos : String} {af : Array Edge} {gd : Option (Nat × Bool)}
variable {α β : Type}
theorem lT {P : Program} {w : World} : ∀ (fs : List Field) (ps : List (Nat × Nat)), fs.mapM (fun f => (P.info? f.type).map fun i => (f.offset, i.size)) = some ps →
    (fs.mapM (fun f => (do pure (f.offset, ← sizeOf f.type) : Sem (Nat × Nat)))).run P w = .ok ps w := by
  intro fs
  induction fs with
  | nil => intro ps h; simp at h; subst h; rfl
  | cons f fs ih =>
    intro ps h
    rw [List.mapM_cons] at h ⊢
    cases hi : P.info? f.type with
    | none => rw [hi] at h; cases h
    | some i =>
      rw [hi] at h
      cases hm : fs.mapM (fun f => (P.info? f.type).map fun i => (f.offset, i.size)) with
      | none => rw [hm] at h; cases h
      | some qs =>
        rw [hm] at h
        obtain rfl := Option.some.inj h
        have h1 := ih qs hm
        simp only [Sem.run_bind, Sem.run_pure, Result.andThen_ok, eE (show gb P f.type = some i.size by simp [gb, hi]), h1]
theorem bW {T : TypeId} {parts : Array (Nat × Operand)} {cs z : List Value} {ps : List (Nat × Nat)} {l : List (Nat × Value)} (a : fL X.P T = some ps) (G : jQ X.P T = some z) (u : parts.toList.map (fun p => (p.1, ev σ p.2)) = l) (E : nj ps z l = some cs) :
    VO X V σ ⟨d, .build T parts, ty, pos, af, gd⟩ (.agg cs.toArray) := by
  intro w _
  unfold fL at a
  split at a
  · rename_i fs F
    obtain ⟨I, m, q⟩ := iz (P := X.P) (w := w) G
    have D := lT (P := X.P) (w := w) _ _ a
    obtain ⟨r, g, h⟩ := tn (ps := ps) l z.toArray cs (by simpa using E)
    have e : (parts.map fun (i, x) => (i, ev σ x)).toList = l := by
      rw [← u]; simp
    have b : (fs.mapM (fun f => (do pure (f.offset, ← sizeOf f.type) : Sem (Nat × Nat)))).run X.P w = .ok ps.toArray w := by
      rw [show fs = fs.toList.toArray by simp, List.mapM_toArray, Sem.run_map]
      exact congrArg (fun r => Result.andThen r _) D
    have j : r = cs.toArray := by apply Array.ext'; simpa using h
    simp only [execOp, Instr.build, Sem.run_bind, m, Result.andThen_ok, run_underlying F, b, e, q, g, j, Sem.run_pure]
  · cases a
def tp (K : Kind α) {A : Type} (cells : A → α → List Value) (b : A → α → List HP) : Prop := ∀ I h x cs, K.own I h x cs → ∃ a, cs = cells a x ∧ eT (b a x) I Hp.none
theorem St.seps {C w : World} {p : HP} {A V : List HP} (s : St C w (p :: (A ++ V))) : St C w (⟨fun I h => ∃ h1 h2, Join h1 h2 h ∧ p.p I h1 ∧ eT A I h2, fun l ⟨h1, h2, j, a, b⟩ => ⟨h1, h2, j, p.mono l a, gf l b⟩⟩ :: V) := by
  obtain ⟨a, I, h, g, j, l, h1, h2, q, c, s⟩ := s
  obtain ⟨i, m, u, d, e⟩ := cS.1 s
  obtain ⟨k, D, E⟩ := Join.assoc' u q
  exact ⟨a, I, h, g, j, l, k, m, E, ⟨h1, i, D, c, d⟩, e⟩
theorem eG [Inhabited α] {K : Kind α} {T e : TypeId} {x y : Operand} {g o n c : Nat} {xs : List α} {vs : List Value} {x' : α} (k : Nat) (j : Int) (hd : dok X.n d = true) (hw : eA ops σ ⟨d, .store T x y, ty, pos, af, gd⟩ = true) (hs : gb X.P T = some K.sz)
    (hx : ev σ x = .pointer (some ⟨g, o + j.toNat * K.sz, none⟩)) (hy : (ev σ y).cells.toList = vs) (h0 : 0 ≤ j) (h1 : j < n) (ho : ∀ I h, eT (tk k V) I h → K.own I h x' vs)
    (h : TL X ops (ow K e (.slice (some ⟨g, o, none⟩) n c) (xs.set j.toNat x') :: dp k V) (fx σ d undef) rest Q) : TL X ops (ow K e (.slice (some ⟨g, o, none⟩) n c) xs :: V) σ (⟨d, .store T x y, ty, pos, af, gd⟩ :: rest) Q := by
  intro w s
  have s2 : St X.C w (_ :: dp k V) := St.seps (A := tk k V) (V := dp k V) (by rw [kv]; exact s)
  obtain ⟨_, w', hr, s'⟩ := St.act s2 0 (q := fun _ : Unit => ow K e (.slice (some ⟨g, o, none⟩) n c) (xs.set j.toNat x')) (Ψ := fun _ w' => (execOp (ev σ) ⟨d, .store T x y, ty, pos, af, gd⟩).run X.P w = .ok .skip w') (by
    rintro I hh ⟨a5, hA, F, p, a8⟩ lI lw dj
    have L := ho I hA a8
    have p : nb K e I a5 (.slice (some ⟨g, o, none⟩) n c) xs := p
    rcases p with ⟨A, hv, rfl, _⟩ | ⟨g', c', pre, i, a, fr, hb, hv, h2, h3, h4, h5, G, ol⟩
    · injection hv with _ hv _
      omega
    injection hv with u e2 e3
    injection u with u
    injection u with u e4
    subst u; subst e3; subst e4; subst e2
    obtain ⟨M, c1, U, g1, g2, hc, a9, jn, ox, a3⟩ := na ol (gK h0 h1)
    have a6 := K.own_len ox
    have a2 := K.own_len L
    have a0 : w.heap[g]? = some (.cells (pre ++ i ++ a).toArray e fr) := lw g _ (F.left g _ (G.left g _ (by simp [Hp.one])))
    have ab : i.length = M.length + c1.length + U.length := by rw [hc]; simp [Nat.add_assoc]
    obtain ⟨w', r, e', ot, sm⟩ := gL (P := X.P) (N := (pre ++ i ++ a).length) (T := e) (fr := fr) (b := g) (by simpa [Nat.add_assoc] using h5) vs (pre.length + j.toNat * K.sz) 0 (pre ++ i ++ a) w rfl a0 (by simp only [List.length_append]; omega) (K.own_one L)
    obtain ⟨m, jm⟩ := Join.of_disj (h1 := hA) (h2 := g2) (fun b => by
      rcases F.disj b with f | f
      · exact .inr ((jn.is_none b).1 ((G.is_none b).1 f).2).2
      · exact .inl f)
    have aa : pre ++ i ++ a = (pre ++ i ++ a) := rfl
    have a4 : (pre ++ i ++ a).take (pre.length + j.toNat * K.sz + 0) ++ vs ++ (pre ++ i ++ a).drop (pre.length + j.toNat * K.sz + 0 + vs.length) = pre ++ (M ++ vs ++ U) ++ a := by
      have u : pre ++ i ++ a = (pre ++ M) ++ (c1 ++ (U ++ a)) := by rw [hc]; simp [List.append_assoc]
      have e2 : pre.length + j.toNat * K.sz + 0 = (pre ++ M).length := by rw [List.length_append]; omega
      rw [u, e2, List.take_left, List.drop_append, List.drop_of_length_le (by omega), List.nil_append, Nat.add_sub_cancel_left, a2, ← a6, List.drop_left]
      simp [List.append_assoc]
    obtain ⟨h', J⟩ := Join.of_disj (h1 := Hp.one g (.cells (pre ++ (M ++ vs ++ U) ++ a).toArray e fr)) (h2 := m) (fun b => by
      by_cases hbg : b = g
      · subst hbg
        refine .inr ((jm.is_none b).2 ⟨?_, ?_⟩)
        · rcases F.disj b with f | f
          · have := ((G.is_none b).1 f).1
            simp [Hp.one] at this
          · exact f
        · rcases G.disj b with f | f
          · simp [Hp.one] at f
          · exact ((jn.is_none b).1 f).2
      · exact .inl (by simp [Hp.one, hbg]))
    refine ⟨(), w', h', ?_, sm _, ?_, ?_, ?_, ?_⟩
    · have a7 : (ev σ y).cells.size = K.sz := by rw [← a2, ← hy]; simp
      simp only [execOp, Instr.storeAt, hx, Instr.sureAddr, Sem.run_bind, Sem.run_pure, Result.andThen_ok, storeVar, eE hs, hy, a7, ne_eq, not_true_eq_false, if_false, r]
    · refine .inr ⟨g, _, pre, M ++ vs ++ U, a, fr, m, by rw [List.length_set], by rw [List.length_set]; exact h2, h3, by rw [List.length_set]; exact h4, ?_, J, a3 I hA x' vs m (Hp.le_refl I) jm L⟩
      rcases h5 with h5 | h5
      · exact .inl h5
      · refine .inr ?_
        simp only [List.length_append] at *
        omega
    · intro b o' u
      rcases J.cases u with ⟨u, _⟩ | ⟨u, e2⟩
      · simp only [Hp.one] at u
        split at u
        · rename_i E
          subst E
          rw [← Option.some.inj u, e', a4]
        · cases u
      · have D : b ≠ g := by rintro rfl; simp [Hp.one] at e2
        rw [ot b D]
        rcases jm.cases u with ⟨u, _⟩ | ⟨u, _⟩
        · exact lw b _ (F.right b _ u)
        · exact lw b _ (F.left b _ (G.right b _ (jn.right b _ u)))
    · intro b E
      refine .inl fun hn => E ?_
      have q1 := (F.is_none b).1 hn
      have q2 := (G.is_none b).1 q1.1
      refine (J.is_none b).2 ⟨?_, (jm.is_none b).2 ⟨q1.2, ((jn.is_none b).1 q2.2).2⟩⟩
      have := q2.1
      simp only [Hp.one] at *
      split at this
      · cases this
      · rename_i D; rw [if_neg D]
    · intro b o' hn u
      have q1 := (F.is_none b).1 hn
      have q2 := ((G.is_none b).1 q1.1).1
      have D : b ≠ g := by rintro rfl; simp [Hp.one] at q2
      rw [ot b D]
      exact u)
  exact eW hd hw (by rw [hr]; exact h w' s')
end
end Go.Pg
namespace Go.Pg
structure DecK {α : Type} (K : Kind α) where
  A : Type
  cells : A → α → List Value
  ents : A → α → List HP
  dec : wG K cells ents
section
variable {α β : Type}
def DecK.scal (enc : α → Value) (h1 : ∀ x, (enc x).oneCell' = true) : DecK (Kind.scal enc h1) := ⟨Unit, fun _ x => [enc x], fun _ _ => [], fun I x cs h => ⟨(), h, rfl⟩⟩
def DecK.sl (e : Nat) (K : Kind α) : DecK (Kind.sl e K) := ⟨Option Addr × Nat, fun a xs => [.slice a.1 xs.length a.2], fun a xs => [aQ K (.slice a.1 xs.length a.2) xs], fun I x cs h => by
  obtain ⟨v, rfl, r⟩ := h
  obtain ⟨a, c, rfl⟩ := lH r
  exact ⟨(a, c), rfl, Hp.none, Hp.none, Join.none _, ⟨rfl, r⟩, rfl⟩⟩
def DecK.pair {A : Kind α} {B : Kind β} (a : DecK A) (b : DecK B) : DecK (Kind.pair A B) := ⟨a.A × b.A, fun p x => a.cells p.1 x.1 ++ b.cells p.2 x.2, fun p x => a.ents p.1 x.1 ++ b.ents p.2 x.2, fun I x cs h => by
  obtain ⟨c1, i, rfl, h1, h2⟩ := h
  obtain ⟨p, rfl, e⟩ := a.dec _ _ _ h1
  obtain ⟨q, rfl, g⟩ := b.dec _ _ _ h2
  exact ⟨(p, q), rfl, cS.2 ⟨Hp.none, Hp.none, Join.none _, e, g⟩⟩⟩
def DecK.iso {K : Kind α} (a : DecK K) (f : β → α) : DecK (Kind.iso K f) := ⟨a.A, fun p x => a.cells p (f x), fun p x => a.ents p (f x), fun I x cs h => a.dec I (f x) cs h⟩
theorem DecK.own {K : Kind α} (a : DecK K) : tp K.share a.cells a.ents := fun I h x cs o => a.dec I x cs o.2
theorem DecK.leaf {K : Kind α} (a : DecK K) {fo : Nat} {pr : α → Value} (h : ∀ p x, oF (a.cells p x) fo = some (pr x)) : uY K fo pr := fun I x cs b => by
  obtain ⟨p, rfl, _⟩ := a.dec I x cs b
  exact h p x
structure MkS {α : Type} (K : Kind α) where
  A : Type
  cells : A → α → List Value
  ents : A → α → List HP
  put : ∀ I h a x, eT (ents a x) I h → h = Hp.none ∧ K.rd I x (cells a x)
structure MkO {α : Type} (K : Kind α) where
  A : Type
  cells : A → α → List Value
  ents : A → α → List HP
  put : ∀ I h a x, eT (ents a x) I h → K.own I h x (cells a x)
def MkS.scal (enc : α → Value) (h1 : ∀ x, (enc x).oneCell' = true) : MkS (Kind.scal enc h1) := ⟨Unit, fun _ x => [enc x], fun _ _ => [], fun I h a x s => ⟨s, rfl⟩⟩
def MkS.sl (e : Nat) (K : Kind α) : MkS (Kind.sl e K) := ⟨Value, fun v _ => [v], fun v xs => [aQ K v xs], fun I h a x s => by
  obtain ⟨h1, h2, j, ⟨rfl, r⟩, e⟩ := s
  have e : h2 = Hp.none := e
  subst e
  exact ⟨j.eq_of_none, a, rfl, r⟩⟩
def MkS.pair {A : Kind α} {B : Kind β} (a : MkS A) (b : MkS B) : MkS (Kind.pair A B) := ⟨a.A × b.A, fun p x => a.cells p.1 x.1 ++ b.cells p.2 x.2, fun p x => a.ents p.1 x.1 ++ b.ents p.2 x.2, fun I h p x s => by
  obtain ⟨h1, h2, j, q, u⟩ := cS.1 s
  obtain ⟨e, i⟩ := a.put _ _ _ _ q
  obtain ⟨g, m⟩ := b.put _ _ _ _ u
  subst e; subst g
  exact ⟨j.eq_of_none, _, _, rfl, i, m⟩⟩
def MkS.iso {K : Kind α} (a : MkS K) (f : β → α) : MkS (Kind.iso K f) := ⟨a.A, fun p x => a.cells p (f x), fun p x => a.ents p (f x), fun I h p x s => a.put I h p (f x) s⟩
def MkO.scal (enc : α → Value) (h1 : ∀ x, (enc x).oneCell' = true) : MkO (Kind.scal enc h1) := ⟨Unit, fun _ x => [enc x], fun _ _ => [], fun I h a x s => ⟨s, rfl⟩⟩
def MkO.sl (e : Nat) (K : Kind α) : MkO (Kind.sl e K) := ⟨Value, fun v _ => [v], fun v xs => [ow K e v xs], fun I h a x s => by
  obtain ⟨h1, h2, j, o, b⟩ := s
  have b : h2 = Hp.none := b
  subst b
  rw [j.symm.eq_of_none]
  exact ⟨a, rfl, o⟩⟩
def MkO.pair {A : Kind α} {B : Kind β} (a : MkO A) (b : MkO B) : MkO (Kind.pair A B) := ⟨a.A × b.A, fun p x => a.cells p.1 x.1 ++ b.cells p.2 x.2, fun p x => a.ents p.1 x.1 ++ b.ents p.2 x.2, fun I h p x s => by
  obtain ⟨h1, h2, j, e, g⟩ := cS.1 s
  exact ⟨h1, h2, _, _, j, rfl, a.put _ _ _ _ e, b.put _ _ _ _ g⟩⟩
def MkO.iso {K : Kind α} (a : MkO K) (f : β → α) : MkO (Kind.iso K f) := ⟨a.A, fun p x => a.cells p (f x), fun p x => a.ents p (f x), fun I h p x s => a.put I h p (f x) s⟩
structure SpO {α : Type} (K : Kind α) where
  A : Type
  cells : A → α → List Value
  ents : A → α → List HP
  sp : ∀ I h x cs, K.own I h x cs → ∃ a, cs = cells a x ∧ eT (ents a x) I h
theorem oS {L : Kind β} {e : Nat} {I h : Hp} {v : Value} {ys : List β} (r : nb L e I h v ys) : ∃ a c, v = .slice a ys.length c := by
  rcases r with ⟨A, rfl, rfl, _⟩ | ⟨g, c, pre, i, b, fr, h1, rfl, _⟩
  · exact ⟨A, 0, rfl⟩
  · exact ⟨_, c, rfl⟩
def SpO.scal (enc : α → Value) (h1 : ∀ x, (enc x).oneCell' = true) : SpO (Kind.scal enc h1) := ⟨Unit, fun _ x => [enc x], fun _ _ => [], fun I h x cs o => ⟨(), o.2, o.1⟩⟩
def SpO.sl (e : Nat) (K : Kind α) : SpO (Kind.sl e K) := ⟨Option Addr × Nat, fun a xs => [.slice a.1 xs.length a.2], fun a xs => [ow K e (.slice a.1 xs.length a.2) xs], fun I h x cs o => by
  obtain ⟨v, rfl, r⟩ := o
  obtain ⟨a, c, rfl⟩ := oS r
  exact ⟨(a, c), rfl, h, Hp.none, Join.none' _, r, rfl⟩⟩
def SpO.pair {A : Kind α} {B : Kind β} (a : SpO A) (b : SpO B) : SpO (Kind.pair A B) := ⟨a.A × b.A, fun p x => a.cells p.1 x.1 ++ b.cells p.2 x.2, fun p x => a.ents p.1 x.1 ++ b.ents p.2 x.2, fun I h x cs o => by
  obtain ⟨h1, h2, c1, i, j, rfl, o1, o2⟩ := o
  obtain ⟨p, rfl, e⟩ := a.sp _ _ _ _ o1
  obtain ⟨q, rfl, g⟩ := b.sp _ _ _ _ o2
  exact ⟨(p, q), rfl, cS.2 ⟨h1, h2, j, e, g⟩⟩⟩
def SpO.iso {K : Kind α} (a : SpO K) (f : β → α) : SpO (Kind.iso K f) := ⟨a.A, fun p x => a.cells p (f x), fun p x => a.ents p (f x), fun I h x cs o => a.sp I h (f x) cs o⟩
structure Zr {α : Type} (K : Kind α) where
  z : α
  cs : List Value
  len : cs.length = K.sz
  own : ∀ I, K.own I Hp.none z cs
def Zr.scal (enc : α → Value) (h1 : ∀ x, (enc x).oneCell' = true) (z : α) : Zr (Kind.scal enc h1) := ⟨z, [enc z], rfl, fun I => ⟨rfl, rfl⟩⟩
def Zr.sl (e : Nat) (K : Kind α) : Zr (Kind.sl e K) := ⟨[], [.slice none 0 0], rfl, fun I => ⟨_, rfl, .inl ⟨none, rfl, rfl, rfl⟩⟩⟩
def Zr.pair {A : Kind α} {B : Kind β} (a : Zr A) (b : Zr B) : Zr (Kind.pair A B) := ⟨(a.z, b.z), a.cs ++ b.cs, by rw [List.length_append, a.len, b.len]; rfl, fun I => ⟨Hp.none, Hp.none, _, _, Join.none _, rfl, a.own I, b.own I⟩⟩
def Zr.iso {K : Kind α} (a : Zr K) (f : β → α) (z : β) (h : f z = a.z) : Zr (Kind.iso K f) := ⟨z, a.cs, a.len, fun I => by show K.own I Hp.none (f z) a.cs; rw [h]; exact a.own I⟩
def Zr.share {K : Kind α} (a : Zr K) : Zr K.share := ⟨a.z, a.cs, a.len, fun I => ⟨rfl, K.own_rd (Hp.le_refl I) (Hp.none_le I) (a.own I)⟩⟩
theorem Zr.zk {P : Program} {K : Kind α} {e : TypeId} (a : Zr K) (h : jQ P e = some a.cs) : lK P K e a.z := ⟨a.cs, h, a.len, a.own⟩
theorem mA {K : Kind α} {I J : Hp} (l : Hp.le I J) : ∀ (xs : List α) (h : Hp) (cs : List Value), Hp.le h J → fB K I h xs cs → fB K.share J Hp.none xs cs := by
  intro xs
  induction xs with
  | nil => intro h cs _ o; exact ⟨rfl, o.2⟩
  | cons x xs ih =>
    rintro h cs i ⟨h1, h2, c1, g, j, e, a, b⟩
    exact ⟨Hp.none, Hp.none, c1, g, Join.none _, e, ⟨rfl, K.own_rd l (Hp.le_trans j.left i) a⟩, ih h2 g (Hp.le_trans j.right i) b⟩
theorem St.wk {C w : World} {V : List HP} {K : Kind α} {e : Nat} {v : Value} {xs : List α} (s : St C w V) (i : Nat) (hV : lk V i = ow K e v xs) : St C w (ow K.share e v xs :: Pg.rm V i) := by
  obtain ⟨a, I, h, g, j, l, s⟩ := s.mv i
  obtain ⟨h1, h2, D, p, s'⟩ := s
  rw [hV] at p
  have p : nb K e I h1 v xs := p
  rcases p with ⟨A, rfl, rfl, rfl⟩ | ⟨b, c, pre, u, q, fr, M, rfl, q2, q3, q4, q5, E, ol⟩
  · exact ⟨a, I, h, g, j, l, Hp.none, h2, D, .inl ⟨A, rfl, rfl, rfl⟩, s'⟩
  · obtain ⟨k, k1, k2⟩ := Join.assoc' D j
    obtain ⟨J, L⟩ := Join.of_disj (h1 := I) (h2 := M) (fun x => by
      rcases k1.disj x with f | f
      · exact .inl f
      · exact .inr ((E.is_none x).1 f).2)
    obtain ⟨U, T⟩ := Join.of_disj (h1 := Hp.one b (.cells (pre ++ u ++ q).toArray e fr)) (h2 := h2) (fun x => by
      rcases D.disj x with f | f
      · exact .inl ((E.is_none x).1 f).1
      · exact .inr f)
    obtain ⟨G, jG⟩ := Join.of_disj (h1 := J) (h2 := U) (fun x => by
      by_cases hx : J x = Option.none
      · exact .inl hx
      · refine .inr ((T.is_none x).2 ?_)
        cases hI : I x with
        | some o =>
          have : h x = Option.none := by
            rcases j.disj x with f | f
            · rw [hI] at f; cases f
            · exact f
          have := (D.is_none x).1 this
          exact ⟨((E.is_none x).1 this.1).1, this.2⟩
        | none =>
          have F : M x ≠ Option.none := fun hn => hx ((L.is_none x).2 ⟨hI, hn⟩)
          refine ⟨?_, ?_⟩
          · rcases E.disj x with f | f
            · exact f
            · exact absurd f F
          · rcases D.disj x with f | f
            · exact absurd ((E.is_none x).1 f).2 F
            · exact f)
    refine ⟨a, J, U, G, jG, ?_, _, h2, T, .inr ⟨b, c, pre, u, q, fr, Hp.none, rfl, q2, q3, q4, q5, Join.none' _, mA L.left xs M u L.right ol⟩, gf L.left s'⟩
    intro x o m
    rcases jG.cases m with ⟨m, _⟩ | ⟨m, _⟩
    · rcases L.cases m with ⟨m, _⟩ | ⟨m, _⟩
      · exact l x o (j.left x o m)
      · exact l x o (j.right x o (D.left x o (E.right x o m)))
    · rcases T.cases m with ⟨m, _⟩ | ⟨m, _⟩
      · exact l x o (j.right x o (D.left x o (E.left x o m)))
      · exact l x o (j.right x o (D.right x o m))
end
section
variable {X : Cx} {V : List HP} {σ : cY} {Q : Exit → cY → World → Prop} {ops : Array Oper} {rest : List Oper}
variable {d : Option Nat} {ty : TypeId} {pos : String} {af : Array Edge} {gd : Option (Nat × Bool)}
theorem bF {T : TypeId} {x : Operand} {b k n : Nat} {cs ds : List Value} {a : Nat} (i : Nat) (g : fy X.P T = some true) (m : gb X.P T = some n)
    (e : lk V i = aK b cs a) (q : ev σ x = .pointer (some ⟨b, k, none⟩)) (h : (cs.drop k).take n = ds) (j : ds.length = n) : VO X V σ ⟨d, .load T x, ty, pos, af, gd⟩ (.agg ds.toArray) := by
  subst h
  exact qU i g m e q j
end
section
variable {α : Type}
theorem MkO.list {K : Kind α} (M : MkO K) : ∀ (ps : List (M.A × α)) (I h : Hp), eT (ps.flatMap fun p => M.ents p.1 p.2) I h → fB K I h (ps.map (·.2)) (ps.flatMap fun p => M.cells p.1 p.2) := by
  intro ps
  induction ps with
  | nil => intro I h s; exact ⟨s, rfl⟩
  | cons p ps ih =>
    intro I h s
    rw [List.flatMap_cons] at s
    obtain ⟨h1, h2, j, a, b⟩ := cS.1 s
    exact ⟨h1, h2, _, _, j, by rw [List.flatMap_cons], M.put _ _ _ _ a, ih I h2 b⟩
theorem MkS.list {K : Kind α} (M : MkS K) : ∀ (ps : List (M.A × α)) (I h : Hp), eT (ps.flatMap fun p => M.ents p.1 p.2) I h → fB K.share I h (ps.map (·.2)) (ps.flatMap fun p => M.cells p.1 p.2) := by
  intro ps
  induction ps with
  | nil => intro I h s; exact ⟨s, rfl⟩
  | cons p ps ih =>
    intro I h s
    rw [List.flatMap_cons] at s
    obtain ⟨h1, h2, j, a, b⟩ := cS.1 s
    exact ⟨h1, h2, _, _, j, by rw [List.flatMap_cons], M.put _ _ _ _ a, ih I h2 b⟩
theorem DecK.flat {K : Kind α} (a : DecK K) {b : α → List Value} (h : ∀ p x, a.cells p x = b x) : ∀ I x cs, K.rd I x cs → cs = b x := fun I x cs r => by
  obtain ⟨p, rfl, _⟩ := a.dec I x cs r
  exact h p x
end
theorem dY {a : Bool} (b : a = false) : (!a) = true := by rw [b]; rfl
theorem vb {a b : Bool} (h : a = b) : Value.bool a = Value.bool b := by rw [h]
def cT {α : Type} [Inhabited α] (c : Bool) (x : Option α) : Option α := cond c x (some default)
theorem cZ {α : Type} [Inhabited α] {c : Bool} {x : Option α} {r : α} (h : cT c x = some r) (a : c = true) : x = some r := by
  rw [a] at h
  exact h
section
variable {X : Cx} {V : List HP} {σ : cY} {Q : Exit → cY → World → Prop} {ops : Array Oper} {rest : List Oper}
variable {d : Option Nat} {ty : TypeId} {pos : String} {af : Array Edge} {gd : Option (Nat × Bool)}
theorem vd {S : TypeId} {x : Operand} {f fo b k a : Nat} (g : dB X.P S f = some fo) (i : ev σ x = .pointer (some ⟨b, k, none⟩)) (e : k + fo = a) : VO X V σ ⟨d, .fieldAddr S x f, ty, pos, af, gd⟩ (.pointer (some ⟨b, a, none⟩)) := by
  have h := qV (X := X) (V := V) (d := d) (ty := ty) (pos := pos) (af := af) (gd := gd) g i
  rw [fi, e] at h
  exact h
theorem jU {A : Type} {x : Code} (pf : A → Prop) (g : A → List (Nat × Value)) (b : A → List HP) (i : TC X V σ x (fK (Jn X pf g b) Q)) (j : ∀ a σ', pf a → TQ X (b a) (lv σ' (g a)) .normal Q) : TC X V σ x Q := by
  intro w s
  refine W.mono (i w s) ?_
  intro e σ' m q
  cases e with
  | normal =>
    obtain ⟨a, h, h1, h2⟩ := q
    have := j a σ' h m h2
    rw [hK h1] at this
    exact this
  | _ => exact q
theorem iG {T : TypeId} {x : Operand} {g k fo : Nat} {v : Value} {cs : List Value} (i : Nat) (b : fy X.P T = some false) (a : lk V i = cl g k cs) (h : ev σ x = .pointer (some ⟨g, k + fo, none⟩)) (e : oF cs fo = some v) : VO X V σ ⟨d, .load T x, ty, pos, af, gd⟩ v := by
  intro w s
  have := ne s i a fo v (by rw [← iY]; exact e)
  simp only [execOp, Instr.loadAt, h, Instr.sureAddr, Sem.run_bind, Sem.run_pure, Result.andThen_ok, fe b this]
theorem jV {T : TypeId} {x : Operand} {g k fo n : Nat} {cs ds : List Value} (i : Nat) (h : fy X.P T = some true) (D : gb X.P T = some n) (e : lk V i = cl g k cs) (E : ev σ x = .pointer (some ⟨g, k + fo, none⟩)) (m : (cs.drop fo).take n = ds) (q : ds.length = n) :
    VO X V σ ⟨d, .load T x, ty, pos, af, gd⟩ (.agg ds.toArray) := by
  intro w s
  have := ne s i e
  have h2 := ff (P := X.P) (w := w) (a := ⟨g, k + fo, none⟩) (cs := ds) h (by rw [q]; exact D) (fun j u b => by
    rw [fi, Nat.add_assoc]
    refine this _ _ ?_
    rw [← m, List.getElem?_take] at b
    split at b
    · rwa [List.getElem?_drop] at b
    · cases b)
  simp only [execOp, Instr.loadAt, E, Instr.sureAddr, Sem.run_bind, Sem.run_pure, Result.andThen_ok, h2]
end
section
variable {α : Type} {P : Program} {f : FuncId} {args : List Value}
def nl : List HP → List HP → Prop
  | [], [] => True
  | p :: A', q :: A => (∀ I J h, Hp.le I J → Hp.le h J → p.p I h → q.p J Hp.none) ∧ nl A' A
  | _, _ => False
theorem bD {K : Kind α} {e : Nat} {v : Value} {xs : List α} : ∀ I J h, Hp.le I J → Hp.le h J → (ow K e v xs).p I h → (aQ K v xs).p J Hp.none := fun I J h l m p => ⟨rfl, iy l m p⟩
theorem jw {K : Kind α} {e : Nat} {v : Value} {xs : List α} : ∀ I J h, Hp.le I J → Hp.le h J → (ow K.share e v xs).p I h → (aQ K v xs).p J Hp.none := fun I J h l m p => ⟨rfl, iy (K := K.share) l m p⟩
theorem iH {K : Kind α} {e : Nat} {v : Value} {xs : List α} : gC (ow K.share e v xs) K v xs := aH (K := K.share)
theorem St.shs {C w : World} {V : List HP} {K : Kind α} {e : Nat} {v : Value} {xs : List α} (s : St C w V) (i : Nat) (a : lk V i = ow K.share e v xs) : St C w (aQ K v xs :: Pg.rm V i) := St.shr (K := K.share) s i a
theorem mB : ∀ (A' A : List HP), nl A' A → ∀ I J h, Hp.le I J → Hp.le h J → eT A' I h → eT A J Hp.none := by
  intro A'
  induction A' with
  | nil =>
    intro A e I J h _ _ s
    cases A with
    | nil => rfl
    | cons q A => exact e.elim
  | cons p A' ih =>
    intro A e I J h lI g s
    cases A with
    | nil => exact e.elim
    | cons q A =>
      obtain ⟨h1, h2, j, a, b⟩ := s
      exact ⟨Hp.none, Hp.none, Join.none _, e.1 I J h1 lI (Hp.le_trans j.left g) a, ih A e.2 I J h2 lI (Hp.le_trans j.right g) b⟩
theorem FnOk.lends {T : Type} {A' A B : List HP} {a : T → Value × List HP} (hc : FnOk P f args (A ++ B) a) (hl : nl A' A) (hp : ∀ x, AllC (a x).2) : FnOk P f args (A' ++ B) (fun x => ((a x).1, A' ++ (a x).2)) := by
  rintro C w V ⟨sm, I, hh, g, j, lw, U⟩
  rw [List.append_assoc] at U
  obtain ⟨h1, h2, j', p, s⟩ := cS.1 U
  obtain ⟨s1, E, j2, sP, sV⟩ := cS.1 s
  obtain ⟨k, h, k2⟩ := Join.assoc' j' j
  have st : St C w (A ++ B ++ (xS I :: xS h1 :: V.map (at_ I))) := by
    refine ⟨sm, k, h2, g, k2, lw, ?_⟩
    rw [List.append_assoc]
    exact cS.2 ⟨Hp.none, h2, Join.none h2, mB A' A hl I k h1 h.left h.right p, cS.2 ⟨s1, E, j2, gf h.left sP, Hp.none, E, Join.none E, ⟨rfl, h.left⟩, Hp.none, E, Join.none E, ⟨rfl, h.right⟩, ra h.left sV⟩⟩
  refine Calls.mono' (hc C w _ st) ?_
  rintro e' w' ⟨x, rfl, J, I', q, g', u, i, L⟩
  refine ⟨x, rfl, J, ?_⟩
  obtain ⟨q1, q2, jq, sR, b1, b2, jb, ⟨rfl, lI⟩, c1, c2, jc, ⟨rfl, M⟩, G⟩ := cS.1 L
  have e1 := jb.eq_of_none
  have e2 := jc.eq_of_none
  subst e2; subst e1
  have dj : ∀ b, h1 b = Option.none ∨ q b = Option.none := fun b => by
    cases hb : h1 b with
    | none => exact .inl rfl
    | some o =>
      refine .inr ?_
      rcases u.disj b with f | f
      · rw [M b o hb] at f; cases f
      · exact f
  obtain ⟨m, F⟩ := Join.of_disj dj
  obtain ⟨g2, D⟩ := Join.of_disj (h1 := I) (h2 := m) (fun b => by
    cases hb : I b with
    | none => exact .inl rfl
    | some o =>
      refine .inr ((F.is_none b).2 ⟨?_, ?_⟩)
      · rcases h.disj b with f | f
        · rw [hb] at f; cases f
        · exact f
      · rcases u.disj b with f | f
        · rw [lI b o hb] at f; cases f
        · exact f)
  refine ⟨I, m, g2, D, ?_, ?_⟩
  · intro b o e
    rcases D.cases e with ⟨e, _⟩ | ⟨e, _⟩
    · exact i b o (u.left b o (lI b o e))
    · rcases F.cases e with ⟨e, _⟩ | ⟨e, _⟩
      · exact i b o (u.left b o (M b o e))
      · exact i b o (u.right b o e)
  · rw [List.append_assoc]
    exact cS.2 ⟨h1, q, F, p, cS.2 ⟨q1, q2, jq, lQ (wL (hp x)) sR, rb G⟩⟩
end
end Go.Pg
namespace Go.Pg
def fW (i j : Nat) : Nat := cond (Nat.blt i j) (j - 1) j
def mC : Nat → List Nat → Bool
  | _, [] => true
  | n, i :: is => Nat.blt i n && is.all (fun j => !Nat.beq i j) && mC n is
theorem ve : ∀ (A : List HP) (i j : Nat), i ≠ j → lk (rm A i) (fW i j) = lk A j := by
  intro A
  induction A with
  | nil => intro i j _; cases i <;> rfl
  | cons p A ih =>
    intro i j a
    cases i with
    | zero =>
      cases j with
      | zero => exact absurd rfl a
      | succ j => rfl
    | succ i =>
      cases j with
      | zero =>
        have : fW (i + 1) 0 = 0 := by simp [fW, Nat.blt]
        rw [this]; rfl
      | succ j =>
        have m : fW (i + 1) (j + 1) = fW i j + 1 := by
          have g : Nat.blt (i + 1) (j + 1) = Nat.blt i j := by
            cases h : Nat.blt i j with
            | true => have := Nat.le_of_ble_eq_true h; exact Nat.ble_eq_true_of_le (by omega)
            | false =>
              cases h2 : Nat.blt (i + 1) (j + 1) with
              | false => rfl
              | true =>
                have := Nat.le_of_ble_eq_true h2
                have b : Nat.blt i j = true := Nat.ble_eq_true_of_le (by omega)
                rw [b] at h; cases h
          unfold fW
          rw [g]
          cases h : Nat.blt i j with
          | true => have := Nat.le_of_ble_eq_true h; show j + 1 - 1 = j - 1 + 1; omega
          | false => rfl
        rw [m]
        exact ih i j (fun e => a (by rw [e]))
theorem oU {I : Hp} : ∀ (n : Nat) (is : List Nat) (A : List HP) (h : Hp), is.length ≤ n → (∀ i ∈ is, i < A.length) → is.Nodup → eT A I h → ∃ E, Hp.le E h ∧ eT (is.map (lk A)) I E := by
  intro n
  induction n with
  | zero =>
    intro is A h M _ _ _
    have : is = [] := List.eq_nil_of_length_eq_zero (by omega)
    subst this
    exact ⟨Hp.none, Hp.none_le _, rfl⟩
  | succ n ih =>
    intro is A h M u J s
    cases is with
    | nil => exact ⟨Hp.none, Hp.none_le _, rfl⟩
    | cons i is =>
      obtain ⟨h1, h2, j, a, b⟩ := eY i s
      have m := List.nodup_cons.1 J
      have U := u i (by simp)
      have a0 : (rm A i).length + 1 = A.length := by
        clear ih M u J m s j a b h1 h2
        induction A generalizing i with
        | nil => cases U
        | cons p A ihA =>
          cases i with
          | zero => rfl
          | succ i => exact congrArg (· + 1) (ihA i (by simpa using U))
      have q : ∀ x ∈ is, x ≠ i := fun x D e => m.1 (e ▸ D)
      obtain ⟨E, l, s'⟩ := ih (is.map (fW i)) (rm A i) h2 (by simp at M ⊢; omega) (by
        intro x D
        obtain ⟨y, L, rfl⟩ := List.mem_map.1 D
        have h3 := u y (by simp [L])
        have h4 := q y L
        unfold fW
        cases hb : Nat.blt i y with
        | true => have := Nat.le_of_ble_eq_true hb; show y - 1 < _; omega
        | false =>
          have : ¬ i < y := fun F => by
            have G : Nat.blt i y = true := Nat.ble_eq_true_of_le F
            rw [G] at hb; cases hb
          show y < _
          omega) (by
        unfold List.Nodup
        rw [List.pairwise_map]
        refine List.Pairwise.imp_of_mem (fun {x y} D L hne => ?_) m.2
        have h3 := q x D
        have h4 := q y L
        intro e
        unfold fW at e
        cases hb : Nat.blt i x <;> cases hc : Nat.blt i y <;> rw [hb, hc] at e
        · exact hne e
        · have := Nat.le_of_ble_eq_true hc
          have T : ¬ i < x := fun F => by
            have G : Nat.blt i x = true := Nat.ble_eq_true_of_le F
            rw [G] at hb; cases hb
          have e : x = y - 1 := e
          omega
        · have := Nat.le_of_ble_eq_true hb
          have T : ¬ i < y := fun F => by
            have G : Nat.blt i y = true := Nat.ble_eq_true_of_le F
            rw [G] at hc; cases hc
          have e : x - 1 = y := e
          omega
        · have := Nat.le_of_ble_eq_true hb
          have := Nat.le_of_ble_eq_true hc
          have e : x - 1 = y - 1 := e
          omega) b
      have he : (is.map (fW i)).map (lk (rm A i)) = is.map (lk A) := by
        rw [List.map_map]
        refine List.map_congr_left fun x D => ?_
        exact ve A i x (fun e => q x D e.symm)
      rw [he] at s'
      obtain ⟨g, jg⟩ := Join.of_disj (h1 := h1) (h2 := E) (fun b => by
        rcases j.disj b with f | f
        · exact .inl f
        · refine .inr ?_
          cases hq : E b with
          | none => rfl
          | some o => rw [l b o hq] at f; cases f)
      refine ⟨g, fun b o e => ?_, h1, E, jg, a, s'⟩
      rcases jg.cases e with ⟨e, _⟩ | ⟨e, _⟩
      · exact j.left b o e
      · exact j.right b o (l b o e)
theorem o6 : ∀ (n : Nat) (is : List Nat), mC n is = true → (∀ i ∈ is, i < n) ∧ is.Nodup := by
  intro n is
  induction is with
  | nil => intro _; exact ⟨fun _ h => (by cases h), List.nodup_nil⟩
  | cons i is ih =>
    intro h
    simp only [mC, Bool.and_eq_true, List.all_eq_true, Bool.not_eq_true'] at h
    obtain ⟨⟨h1, h2⟩, e⟩ := h
    obtain ⟨g1, b⟩ := ih e
    refine ⟨fun x a => ?_, List.nodup_cons.2 ⟨fun g => ?_, b⟩⟩
    · rcases List.mem_cons.1 a with rfl | a
      · exact Nat.lt_of_lt_of_le (Nat.lt_succ_self _) (Nat.le_of_ble_eq_true h1)
      · exact g1 x a
    · have := h2 i g
      rw [show Nat.beq i i = true from Nat.beq_refl i] at this
      cases this
theorem tq : ∀ (n : Nat) (V : List HP), n ≤ V.length → (tk n V).length = n := by
  intro n
  induction n with
  | zero => intro V _; rfl
  | succ n ih =>
    intro V h
    cases V with
    | nil => simp at h
    | cons p V => exact congrArg (· + 1) (ih V (by simpa using h))
theorem vf : ∀ (n : Nat) (V : List HP) (i : Nat), i < n → lk (tk n V) i = lk V i := by
  intro n
  induction n with
  | zero => intro V i h; cases h
  | succ n ih =>
    intro V i h
    cases V with
    | nil => rfl
    | cons p V =>
      cases i with
      | zero => rfl
      | succ i => exact ih V i (by omega)
def uR : Nat → List HP → Bool
  | 0, _ => true
  | _ + 1, [] => false
  | n + 1, _ :: V => uR n V
theorem oV : ∀ (n : Nat) (V : List HP), uR n V = true → n ≤ V.length := by
  intro n
  induction n with
  | zero => intro V _; exact Nat.zero_le _
  | succ n ih =>
    intro V h
    cases V with
    | nil => cases h
    | cons p V => exact Nat.succ_le_succ (ih V h)
theorem St.sel {C w : World} {V : List HP} (s : St C w V) (n : Nat) (is : List Nat) (h : mC n is = true) (D : uR n V = true) : St C w (is.map (lk V) ++ dp n V) := by
  obtain ⟨h1, h2⟩ := o6 n is h
  have D := oV n V D
  rw [← kv n V] at s
  obtain ⟨a, I, hh, g, j, l, s⟩ := s
  obtain ⟨g1, F, E, sA, sB⟩ := cS.1 s
  obtain ⟨q, M, U⟩ := oU is.length is (tk n V) g1 (Nat.le_refl _) (fun i u => by rw [tq n V D]; exact h1 i u) h2 sA
  have he : is.map (lk (tk n V)) = is.map (lk V) := List.map_congr_left fun i u => vf n V i (h1 i u)
  rw [he] at U
  obtain ⟨m, L⟩ := Join.of_disj (h1 := q) (h2 := F) (fun b => by
    rcases E.disj b with f | f
    · refine .inl ?_
      cases hq : q b with
      | none => rfl
      | some o => rw [M b o hq] at f; cases f
    · exact .inr f)
  have T : Hp.le m hh := fun b o e => by
    rcases L.cases e with ⟨e, _⟩ | ⟨e, _⟩
    · exact E.left b o (M b o e)
    · exact E.right b o e
  obtain ⟨G, J⟩ := Join.of_disj (h1 := I) (h2 := m) (fun b => by
    rcases j.disj b with f | f
    · exact .inl f
    · refine .inr ?_
      cases hq : m b with
      | none => rfl
      | some o => rw [T b o hq] at f; cases f)
  refine ⟨a, I, m, G, J, fun b o e => ?_, cS.2 ⟨q, F, L, U, sB⟩⟩
  rcases J.cases e with ⟨e, _⟩ | ⟨e, _⟩
  · exact l b o (j.left b o e)
  · exact l b o (j.right b o (T b o e))
section
variable {X : Cx} {V : List HP} {σ : cY} {Q : Exit → cY → World → Prop} {cd : Code} {α : Type}
theorem tt {K : Kind α} {a : Option Addr} {n c : Nat} {xs : List α} (i : Nat) (m : gC (lk V i) K (.slice a n c) xs) (b : a.isNone = true) (h : xs = [] → TC X V σ cd Q) : TC X V σ cd Q := by
  intro w s
  obtain ⟨J, lw, A, u, q, h2, D, e⟩ := s.reads m
  refine h ?_ w s
  cases xs with
  | nil => rfl
  | cons x xs =>
    obtain ⟨g, o, j, _⟩ := e (by simp)
    injection q with e1 _ _
    rw [e1, j] at b
    cases b
end
end Go.Pg
namespace Go.Pg
theorem SetL.flat {α : Type} {K : Kind α} (S : SpO K) (M : MkO K) (A : M.A) {fo : Nat} {v : Value} {f : α → α} (h1 : Nat.blt fo K.sz = true) (h2 : ∀ a x, S.ents a x = []) (b : ∀ x, M.ents A (f x) = []) (e : ∀ a x, (S.cells a x).set fo v = M.cells A (f x)) : SetL K fo v f := by
  refine ⟨Nat.lt_of_lt_of_le (Nat.lt_succ_self _) (Nat.le_of_ble_eq_true h1), fun I h x cs o => ?_⟩
  obtain ⟨a, rfl, s⟩ := S.sp I h x cs o
  rw [h2] at s
  have s : h = Hp.none := s
  subst s
  rw [e]
  exact M.put I Hp.none A (f x) (by rw [b]; rfl)
end Go.Pg
namespace Go.Pg
section
variable {α : Type}
end
section
variable {X : Cx} {V : List HP} {σ : cY} {Q : Exit → cY → World → Prop} {ops : Array Oper} {rest : List Oper} {cd : Code}
variable {d : Option Nat} {ty : TypeId} {pos : String} {af : Array Edge} {gd : Option (Nat × Bool)} {α : Type}
end
end Go.Pg
namespace Go.Pg
def pf (φ : Prop) : HP := ⟨fun _ h => h = Hp.none ∧ φ, fun _ e => e⟩
section
variable {C w : World} {V : List HP}
end
section
variable {X : Cx} {V : List HP} {σ : cY} {Q : Exit → cY → World → Prop} {ops : Array Oper} {rest : List Oper} {o : Oper} {cd : Code} {ex : Exit}
variable {d : Option Nat} {ty : TypeId} {pos : String} {af : Array Edge} {gd : Option (Nat × Bool)}
variable {α : Type}
end
end Go.Pg
namespace Go.Pg
def nm {α : Type} (x : α) : Option α := some x
section
variable {C w : World} {V : List HP} {α : Type}
end
section
variable {X : Cx} {V : List HP} {σ : cY} {Q : Exit → cY → World → Prop} {ops : Array Oper} {rest : List Oper} {o : Oper} {cd : Code} {ex : Exit}
variable {d : Option Nat} {ty : TypeId} {pos : String} {af : Array Edge} {gd : Option (Nat × Bool)}
variable {α : Type}
end
end Go.Pg
namespace Go.Pg
abbrev iv (n : Int) : Value := .int .i64 n
abbrev ad (g o : Nat) : Option Addr := some ⟨g, o, none⟩
abbrev pt (b k : Nat) : Value := .pointer (some ⟨b, k, none⟩)
abbrev RR {α : Type} (K : Kind α) (a : Option Addr) (c : Nat) (xs : List α) : HP := aQ K (.slice a xs.length c) xs
abbrev OO {α : Type} (K : Kind α) (e : Nat) (a : Option Addr) (c : Nat) (xs : List α) : HP := ow K e (.slice a xs.length c) xs
def rmL (V : List HP) : List Nat → List HP
  | [] => V
  | i :: t => rmL (rm V i) t
theorem St.rmL {C w : World} {V : List HP} (s : St C w V) (l : List Nat) : St C w (rmL V l) := by
  induction l generalizing V with
  | nil => exact s
  | cons i t ih => exact ih (s.rm i)
section
variable {X : Cx} {V V0 : List HP} {σ : cY} {Q : Exit → cY → World → Prop} {ops : Array Oper} {rest : List Oper} {o : Oper} {k fuel : Nat} {listed : Array Bool} {C : World}
variable {d : Nat} {op : Op} {ty : TypeId} {pos : String} {af : Array Edge} {gd : Option (Nat × Bool)}
theorem sL (l : List Nat) : ∀ w, St C w V → St C w (rmL V l) := fun _ s => s.rmL l
theorem lp (v : Value) (h : TL X ops V (iW σ d v) rest Q) (b : pv σ op = some v := by exact rfl) (hw : eA ops σ ⟨some d, op, ty, pos, af, gd⟩ = true := by exact rfl) (a : dok X.n (some d) = true := by exact rfl) : TL X ops V σ (⟨some d, op, ty, pos, af, gd⟩ :: rest) Q :=
  oQ v (gJ b) hw a h
theorem lo (v : Value) (b : VO X V σ ⟨some d, op, ty, pos, af, gd⟩ v) (h : TL X ops V (iW σ d v) rest Q) (hw : eA ops σ ⟨some d, op, ty, pos, af, gd⟩ = true := by exact rfl) (a : dok X.n (some d) = true := by exact rfl) : TL X ops V σ (⟨some d, op, ty, pos, af, gd⟩ :: rest) Q :=
  oQ v b hw a h
theorem lf (hw : eA ops σ o = false) (h : TL X ops V (fx σ o.dst undef) rest Q) (a : dok X.n o.dst = true := by exact rfl) : TL X ops V σ (o :: rest) Q := uX a hw h
theorem eI {id : Nat} {l : List Oper} (k : Nat) (rs : List Nat) (a : X.P.follows .mixedOrders = true) (h : gj l.toArray k = true → Region.noSelect l.toArray = true → TD X l.toArray k (rmL V rs) l.length (Array.replicate l.length false) V σ Q) (b : (gj l.toArray k && Region.noSelect l.toArray) = true := by kernel_rfl) : TC X V σ (.region id l.toArray true) Q :=
  tg k (rmL V rs) a b h
end
end Go.Pg
