import Derived.WalkKit
import Derived.Deep.LoopGhost
import Derived.Test.YthfhllekobdelaaGreatDoorPgF
set_option linter.unusedVariables false
set_option linter.unusedSimpArgs false
namespace Go.Pg
abbrev cY := Nat → Value
def iW (σ : cY) (d : Nat) (v : Value) : cY := fun t => cond (Nat.beq t d) v (σ t)
def fx (σ : cY) : Option Nat → Value → cY
  | some d, v => iW σ d v
  | none, _ => σ
def lv (σ : cY) : List (Nat × Value) → cY
  | [] => σ
  | (d, v) :: l => iW (lv σ l) d v
def eN (a : Act) : cY := fun t => a.tmps.getD t undef
def ev (σ : cY) : Operand → Value
  | .tmp t => σ t
  | .const v => v
  | .global g => .pointer (some ⟨g, 0, none⟩)
  | .func f => .func (.func f) #[] #[]
theorem gH (a : Act) : a.eval = ev (eN a) := by
  funext x
  cases x <;> rfl
theorem ly (σ : cY) (d : Nat) (v : Value) : iW σ d v d = v := by simp [iW]
theorem oy (σ : cY) {d t : Nat} (v : Value) (h : t ≠ d) : iW σ d v t = σ t := by
  have : Nat.beq t d = false := by
    cases hb : Nat.beq t d with
    | false => rfl
    | true => exact absurd (Nat.eq_of_beq_eq_true hb) h
  simp [iW, this]
theorem oz (σ : cY) (d : Nat) {v : Value} (h : σ d = v) : iW σ d v = σ := by
  funext t
  by_cases e : t = d
  · subst e; rw [ly, h]
  · rw [oy _ _ e]
theorem gX (a : Act) (b : Option Tmp) (v : Value) (h : ∀ d, b = some d → d < a.tmps.size) : eN (a.put b v) = fx (eN a) b v := by
  cases b with
  | none => rfl
  | some d =>
    funext t
    show (a.tmps.setIfInBounds d v).getD t undef = iW (eN a) d v t
    have i := h d rfl
    by_cases e : t = d
    · subst e
      rw [ly]
      simp [Array.getD_eq_getD_getElem?, i]
    · rw [oy _ _ e]
      have g : ¬ d = t := fun h => e h.symm
      simp [eN, Array.getD_eq_getD_getElem?, Array.getElem?_setIfInBounds, g]
structure Nn where
  n : Nat
  ds : List Deferred
  alt : Act → World → Prop
@[reducible] def Nn.of (n : Nat) : Nn := ⟨n, [], fun _ _ => False⟩
def fq (N : Nn) (Q : Exit → cY → World → Prop) : Exit → Act → World → Prop := fun e a w => (a.tmps.size = N.n ∧ a.defers = N.ds ∧ Q e (eN a) w) ∨ (e = .ret ∧ N.alt a w)
theorem eZ {N : Nn} {Q : Exit → cY → World → Prop} {e : Exit} {a : Act} {w : World} (h : fq N Q e a w) (b : e ≠ .ret) : a.tmps.size = N.n ∧ a.defers = N.ds ∧ Q e (eN a) w := h.resolve_right fun h => b h.1
theorem gY {N : Nn} {Q Q' : Exit → cY → World → Prop} {e : Exit} {a : Act} {w : World} (h : fq N Q e a w) (g : Q e (eN a) w → Q' e (eN a) w) : fq N Q' e a w := h.imp (fun ⟨a, b, c⟩ => ⟨a, b, g c⟩) id
def W (P : Program) (N : Nn) (c : Code) (Q : Exit → cY → World → Prop) (σ : cY) (w : World) : Prop :=
  ∀ a : Act, a.tmps.size = N.n → a.defers = N.ds → eN a = σ → c.wp P (fq N Q) a w
def WL (P : Program) (N : Nn) (ops : Array Oper) (rest : List Oper) (Q : Exit → cY → World → Prop) (σ : cY) (w : World) : Prop :=
  ∀ a : Act, a.tmps.size = N.n → a.defers = N.ds → eN a = σ → wpList P ops (fq N Q) rest a w
def dok (N : Nn) : Option Nat → Bool
  | some d => Nat.blt d N.n
  | none => true
def kF (ops : Array Oper) (σ : cY) (j : Nat) : Option Bool :=
  match (ops[j]?).bind (·.dst) with
  | some d => match σ d with
    | .bool b => some b
    | _ => none
  | none => none
theorem lz (ops : Array Oper) (a : Act) (j : Nat) : yielded ops a.tmps j = kF ops (eN a) j := by
  unfold yielded kF
  cases h : (ops[j]?).bind (·.dst) with
  | none => rfl
  | some d =>
    simp only [Option.bind_some, eN, Array.getD_eq_getD_getElem?]
    cases ht : a.tmps[d]? with
    | none => simp [undef]
    | some v => cases v <;> simp
def eA (ops : Array Oper) (σ : cY) (o : Oper) : Bool :=
  match o.guard with
  | none => true
  | some (j, b) => kF ops σ j == some b
theorem gm (ops : Array Oper) (a : Act) (o : Oper) : Region.wanted o (yielded ops a.tmps) = eA ops (eN a) o := by
  unfold Region.wanted eA
  cases o.guard with
  | none => rfl
  | some g => simp only [lz]
section
variable {P : Program} {n : Nn} {ops : Array Oper} {rest : List Oper} {o : Oper} {Q Q' : Exit → cY → World → Prop} {σ : cY} {w : World} {c x y : Code}
theorem W.mono (h : W P n c Q σ w) (g : ∀ e σ w, Q e σ w → Q' e σ w) : W P n c Q' σ w :=
  fun a h1 h2 b => wp_mono (h a h1 h2 b) fun _ _ _ q => gY q (g _ _ _)
def fK (K : cY → World → Prop) (Q : Exit → cY → World → Prop) : Exit → cY → World → Prop
  | .normal, σ, w => K σ w
  | e, σ, w => Q e σ w
def gn (id : Nat) (Q : Exit → cY → World → Prop) : Exit → cY → World → Prop
  | .exit id', σ, w => cond (Nat.beq id' id) (Q .normal σ w) (Q (.exit id') σ w)
  | e, σ, w => Q e σ w
theorem uV (h : W P n x (fK (fun σ w => W P n y Q σ w) Q) σ w) : W P n (.seq x y) Q σ w := by
  intro a h1 h2 b
  refine wp_seq (wp_mono (h a h1 h2 b) ?_)
  rintro e a' m q
  cases e with
  | normal =>
    obtain ⟨g, i, j⟩ := eZ q (by simp)
    exact j a' g i rfl
  | _ => exact q
theorem sZ (h : Q .normal σ w) : W P n .skip Q σ w := fun a h1 h2 b => wp_skip (.inl ⟨h1, h2, b ▸ h⟩)
theorem uW (h : Q .ret σ w) : W P n .ret Q σ w := fun a h1 h2 b => wp_ret (.inl ⟨h1, h2, b ▸ h⟩)
theorem t6 {id : Nat} (h : Q (.exit id) σ w) : W P n (.exit id) Q σ w := fun a h1 h2 b => wp_exit (.inl ⟨h1, h2, b ▸ h⟩)
theorem oA {k : Operand} {b : Bool} (g : ev σ k = .bool b) (h : W P n (cond b x y) Q σ w) : W P n (.cond k x y) Q σ w := by
  intro a h1 h2 e
  refine wp_cond (t := b) (by rw [gH, e]; exact g) ?_
  cases b
  · exact h a h1 h2 e
  · exact h a h1 h2 e
theorem qQ {id : Nat} (h : W P n c (gn id Q) σ w) : W P n (.block id c) Q σ w := by
  intro a h1 h2 m
  refine wp_block (wp_mono (h a h1 h2 m) ?_)
  rintro e a' j q
  cases e with
  | exit id' =>
    obtain ⟨g, i, b⟩ := eZ q (by simp)
    unfold gn at b
    show if id' = id then fq n Q .normal a' j else fq n Q (.exit id') a' j
    by_cases e : id' = id
    · subst e
      rw [if_pos rfl]
      have : Nat.beq id' id' = true := Nat.beq_refl id'
      simp only [this, cond_true] at b
      exact .inl ⟨g, i, b⟩
    · rw [if_neg e]
      have : Nat.beq id' id = false := by
        cases hb : Nat.beq id' id with
        | false => rfl
        | true => exact absurd (Nat.eq_of_beq_eq_true hb) e
      simp only [this, cond_false] at b
      exact .inl ⟨g, i, b⟩
  | _ => exact q
theorem oB {id : Nat} {l : List Oper} (h : WL P n l.toArray l Q σ w) : W P n (.region id l.toArray false) Q σ w :=
  fun a h1 h2 b => wp_region_lit (h a h1 h2 b)
theorem t7 (h : Q .normal σ w) : WL P n ops [] Q σ w := fun a h1 h2 b => wpList_nil (.inl ⟨h1, h2, b ▸ h⟩)
theorem t8 (I : Nat → cY → World → Prop) (k : Nat) (m : I k σ w)
    (b : ∀ k σ w, I k σ w → W P n c (fK (fun σ' h => ∃ g, g < k ∧ I g σ' h) Q) σ w) : W P n (.loop c) Q σ w := by
  intro a h1 h2 u
  refine wp_loop_ghost (fun k a w => a.tmps.size = n.n ∧ a.defers = n.ds ∧ I k (eN a) w) k ⟨h1, h2, u ▸ m⟩ ?_
  rintro k a w ⟨g1, i, j⟩
  refine wp_mono (b k _ w j a g1 i rfl) ?_
  rintro e a' h q
  cases e with
  | normal =>
    obtain ⟨F, G, g, E, D⟩ := eZ q (by simp)
    exact ⟨g, E, F, G, D⟩
  | _ => exact q
def wJ (P : Program) (o : Oper) (σ : cY) (a : cY → World → Prop) (Q : Exit → cY → World → Prop) : Result Next → Prop
  | .ok (.value v) w' => a (fx σ o.dst v) w'
  | .ok .skip w' => a (fx σ o.dst undef) w'
  | .ok (.enter f args) w' => Calls P f args w' fun
      | .returned v, w'' => a (fx σ o.dst v) w''
      | .panicked n', w'' => Q (.panic n') σ w''
      | .outgrown, _ => False
  | .halt (.panic v) w' => Q (.panic [{ v, recovered := false }]) σ w'
  | _ => False
theorem Calls.mono' {P : Program} {f : FuncId} {args : Array Value} {w : World} {R b : Ending → World → Prop} (h : Calls P f args w R) (g : ∀ e a, R e a → b e a) : Calls P f args w b :=
  fun cs => let ⟨e, a, fr, r, s⟩ := h cs; ⟨e, a, fr, g _ _ r, s⟩
theorem eW (u : dok n o.dst = true) (hw : eA ops σ o = true) (h : wJ P o σ (fun σ w => WL P n ops rest Q σ w) Q ((execOp (ev σ) o).run P w)) : WL P n ops (o :: rest) Q σ w := by
  intro a h1 h2 j
  refine wpList_step fun K m => ?_
  rw [gm, j, hw, if_pos rfl]
  have b : ∀ v, eN (a.put o.dst v) = fx σ o.dst v := fun v => by
    rw [gX, j]
    intro d e
    rw [e] at u
    rw [h1]
    exact Nat.lt_of_lt_of_le (Nat.lt_succ_self _) (Nat.le_of_ble_eq_true u)
  have i : ∀ v, (a.put o.dst v).tmps.size = n.n := fun v => by
    cases hdd : o.dst with
    | none => exact h1
    | some d => show (a.tmps.setIfInBounds d v).size = n.n; rw [Array.size_setIfInBounds, h1]
  have g : ∀ v, (a.put o.dst v).defers = n.ds := fun v => by
    cases hdd : o.dst with
    | none => exact h2
    | some d => exact h2
  unfold Oper.wp
  rw [gH, j]
  revert h
  generalize (execOp (ev σ) o).run P w = r
  intro h
  match r, h with
  | .ok (.value v) w', h => exact m _ _ (h _ (i v) (g v) (b v))
  | .ok .skip w', h => exact m _ _ (h _ (i _) (g _) (b _))
  | .ok (.enter f args) w', h =>
    refine Calls.mono' h ?_
    intro e D q
    cases e with
    | returned v => exact m _ _ (q _ (i v) (g v) (b v))
    | panicked n' => exact .inl ⟨h1, h2, j ▸ q⟩
    | outgrown => exact q.elim
  | .halt (.panic v) w', h => exact .inl ⟨h1, h2, j ▸ h⟩
theorem ta (g : dok n o.dst = true) (hw : eA ops σ o = false) (h : WL P n ops rest Q (fx σ o.dst undef) w) : WL P n ops (o :: rest) Q σ w := by
  intro a h1 h2 b
  refine wpList_step fun K i => ?_
  rw [gm, b, hw]
  simp only [Bool.false_eq_true, if_false]
  refine i _ _ (h _ ?_ ?_ ?_)
  · cases hdd : o.dst with
    | none => exact h1
    | some d => show (a.tmps.setIfInBounds d _).size = n.n; rw [Array.size_setIfInBounds, h1]
  · cases hdd : o.dst with
    | none => exact h2
    | some d => exact h2
  · rw [gX, b]
    intro d e
    rw [e] at g
    rw [h1]
    exact Nat.lt_of_lt_of_le (Nat.lt_succ_self _) (Nat.le_of_ble_eq_true g)
end
def gI (fn : Func) (σ : cY) : Sem Value := do
  let vs ← fn.results.mapM fun
    | .tmp t => pure (σ t)
    | .cell a t => do loadVar t (← asAddr (σ a))
  pure (if h : vs.size = 1 then vs[0] else .tuple vs)
def mm (P : Program) (fn : Func) (R : Value → World → Prop) : Exit → cY → World → Prop
  | .normal, σ, w | .ret, σ, w => ∃ v, (gI fn σ).run P w = .ok v w ∧ R v w
  | _, _, _ => False
def oC (args : Array Value) : cY := fun t => args.getD t undef
theorem n9 {args : Array Value} {n : Nat} : eN { tmps := args ++ Array.replicate (n - args.size) undef, defers := [] } = oC args := by
  funext t
  simp only [eN, oC, Array.getD_eq_getD_getElem?, Array.getElem?_append]
  split
  · rfl
  · rename_i a
    rw [Array.getElem?_eq_none (by omega : args.size ≤ t)]
    by_cases h2 : t - args.size < n - args.size
    · simp [h2]
    · simp [h2]
theorem mn {P : Program} {f : FuncId} {fn : Func} {c : Code} {args : Array Value} {w : World} {R : Value → World → Prop}
    (D : P.funcs[f]? = some fn) (u : fn.body = some c) (E : args.size ≤ fn.ntmps) (h : W P (.of fn.ntmps) c (mm P fn R) (oC args) w) :
    Calls P f args w fun e m => ∃ v, e = .returned v ∧ R v m := by
  refine calls_of_wp D u ?_
  refine wp_mono (h _ (by simp; omega) rfl ?_) ?_
  · exact n9
  · rintro e a m q
    obtain ⟨F, j, i⟩ := q.resolve_right fun h => h.2
    cases e with
    | normal =>
      obtain ⟨v, g, b⟩ := i
      exact ⟨j, v, g, v, rfl, b⟩
    | ret =>
      obtain ⟨v, g, b⟩ := i
      exact ⟨j, v, g, v, rfl, b⟩
    | _ => exact i.elim
end Go.Pg
namespace Go.Pg
abbrev Hp := Nat → Option Obj
def Hp.none : Hp := fun _ => Option.none
def Hp.one (b : Nat) (o : Obj) : Hp := fun k => if k = b then some o else Option.none
def Hp.le (h g : Hp) : Prop := ∀ b o, h b = some o → g b = some o
def Join (h1 h2 g : Hp) : Prop := ∀ b, (h1 b = Option.none ∧ g b = h2 b) ∨ (h2 b = Option.none ∧ g b = h1 b)
theorem Hp.le_refl (h : Hp) : Hp.le h h := fun _ _ e => e
theorem Hp.le_trans {f g h : Hp} (a : Hp.le f g) (b : Hp.le g h) : Hp.le f h := fun _ _ e => b _ _ (a _ _ e)
theorem Hp.none_le (h : Hp) : Hp.le Hp.none h := fun _ _ e => by cases e
theorem Join.symm {h1 h2 g : Hp} (j : Join h1 h2 g) : Join h2 h1 g := fun b => (j b).symm
theorem Join.none (h : Hp) : Join Hp.none h h := fun b => .inl ⟨rfl, rfl⟩
theorem Join.none' (h : Hp) : Join h Hp.none h := (Join.none h).symm
theorem Join.eq_of_none {h g : Hp} (j : Join Hp.none h g) : g = h := by
  funext b
  rcases j b with ⟨_, e⟩ | ⟨a, e⟩
  · exact e
  · rw [e, a]; rfl
theorem Join.left {h1 h2 g : Hp} (j : Join h1 h2 g) : Hp.le h1 g := fun b o e => by
  rcases j b with ⟨a, _⟩ | ⟨_, h⟩
  · rw [a] at e; cases e
  · rw [h]; exact e
theorem Join.right {h1 h2 g : Hp} (j : Join h1 h2 g) : Hp.le h2 g := j.symm.left
theorem Join.of_disj {h1 h2 : Hp} (d : ∀ b, h1 b = Option.none ∨ h2 b = Option.none) : ∃ g, Join h1 h2 g := by
  refine ⟨fun b => (h1 b).or (h2 b), fun b => ?_⟩
  rcases d b with e | e
  · exact .inl ⟨e, by simp [e]⟩
  · refine .inr ⟨e, by simp [e]⟩
theorem Join.disj {h1 h2 g : Hp} (j : Join h1 h2 g) (b : Nat) : h1 b = Option.none ∨ h2 b = Option.none := by
  rcases j b with ⟨e, _⟩ | ⟨e, _⟩
  · exact .inl e
  · exact .inr e
theorem Join.cases {h1 h2 g : Hp} (j : Join h1 h2 g) {b : Nat} {o : Obj} (e : g b = some o) : (h1 b = some o ∧ h2 b = Option.none) ∨ (h2 b = some o ∧ h1 b = Option.none) := by
  rcases j b with ⟨a, c⟩ | ⟨a, c⟩
  · exact .inr ⟨c ▸ e, a⟩
  · exact .inl ⟨c ▸ e, a⟩
theorem Join.is_none {h1 h2 g : Hp} (j : Join h1 h2 g) (b : Nat) : g b = Option.none ↔ h1 b = Option.none ∧ h2 b = Option.none := by
  rcases j b with ⟨a, c⟩ | ⟨a, c⟩
  · rw [c]; exact ⟨fun h => ⟨a, h⟩, fun h => h.2⟩
  · rw [c]; exact ⟨fun h => ⟨h, a⟩, fun h => h.1⟩
theorem Join.assoc {a b c E g : Hp} (F : Join a b E) (D : Join E c g) : ∃ q, Join b c q ∧ Join a q g := by
  obtain ⟨q, i⟩ := Join.of_disj (h1 := b) (h2 := c) (fun k => by
    rcases D.disj k with e | e
    · exact .inl ((F.is_none k).1 e).2
    · exact .inr e)
  refine ⟨q, i, fun k => ?_⟩
  rcases F k with ⟨u, m⟩ | ⟨u, m⟩
  · refine .inl ⟨u, ?_⟩
    rcases D k with ⟨f1, j⟩ | ⟨f1, j⟩
    · rw [j]
      rcases i k with ⟨g1, h⟩ | ⟨g1, h⟩
      · exact h.symm
      · rw [g1, h]; rw [m] at f1; exact f1.symm
    · rw [j, m]
      rcases i k with ⟨g1, h⟩ | ⟨g1, h⟩
      · rw [h, f1]; exact g1
      · exact h.symm
  · rcases D k with ⟨f1, j⟩ | ⟨f1, j⟩
    · rw [m] at f1
      refine .inl ⟨f1, ?_⟩
      rw [j]
      rcases i k with ⟨g1, h⟩ | ⟨g1, h⟩
      · exact h.symm
      · rw [g1, h, u]
    · refine .inr ⟨?_, by rw [j, m]⟩
      rcases i k with ⟨g1, h⟩ | ⟨g1, h⟩
      · rw [h, f1]
      · rw [h, u]
theorem Join.assoc' {a b c h g : Hp} (j : Join b c h) (m : Join a h g) : ∃ e, Join a b e ∧ Join e c g := by
  obtain ⟨i, h1, h2⟩ := Join.assoc j.symm m.symm
  exact ⟨i, h1.symm, h2.symm⟩
structure HP where
  p : Hp → Hp → Prop
  mono : ∀ {I J h}, Hp.le I J → p I h → p J h
def tb : HP := ⟨fun _ h => h = Hp.none, fun _ e => e⟩
def eT : List HP → Hp → Hp → Prop
  | [], _, h => h = Hp.none
  | q :: V, I, h => ∃ h1 h2, Join h1 h2 h ∧ q.p I h1 ∧ eT V I h2
theorem gf {V : List HP} {I J h : Hp} (l : Hp.le I J) (s : eT V I h) : eT V J h := by
  induction V generalizing h with
  | nil => exact s
  | cons q V ih =>
    obtain ⟨h1, h2, j, a, b⟩ := s
    exact ⟨h1, h2, j, q.mono l a, ih b⟩
def lk : List HP → Nat → HP
  | [], _ => tb
  | q :: _, 0 => q
  | _ :: V, i + 1 => lk V i
def qR : List HP → Nat → HP → List HP
  | [], _, q => [q]
  | _ :: V, 0, q => q :: V
  | p :: V, i + 1, q => p :: qR V i q
def rm : List HP → Nat → List HP
  | [], _ => []
  | _ :: V, 0 => V
  | p :: V, i + 1 => p :: rm V i
def mv (V : List HP) (i : Nat) : List HP := lk V i :: rm V i
theorem eY {V : List HP} {I h : Hp} (i : Nat) (s : eT V I h) : ∃ h1 h2, Join h1 h2 h ∧ (lk V i).p I h1 ∧ eT (rm V i) I h2 := by
  induction V generalizing h i with
  | nil => exact ⟨Hp.none, h, Join.none h, rfl, s⟩
  | cons q V ih =>
    cases i with
    | zero => exact s
    | succ i =>
      obtain ⟨h1, h2, j, a, b⟩ := s
      obtain ⟨g1, e, g, c, d⟩ := ih i b
      obtain ⟨k, u, D⟩ := Join.assoc' g j
      obtain ⟨m, E, F⟩ := Join.assoc u.symm D
      exact ⟨g1, m, F, c, h1, e, E, a, d⟩
theorem lA {V : List HP} {I h h1 h2 : Hp} (i : Nat) {q : HP} (j : Join h1 h2 h) (a : q.p I h1) (b : eT (rm V i) I h2) : eT (qR V i q) I h := by
  induction V generalizing h h2 i with
  | nil => exact ⟨h1, h2, j, a, b⟩
  | cons p V ih =>
    cases i with
    | zero => exact ⟨h1, h2, j, a, b⟩
    | succ i =>
      obtain ⟨g1, F, e, c, d⟩ := b
      obtain ⟨k, g, u⟩ := Join.assoc' e j
      obtain ⟨m, D, E⟩ := Join.assoc g.symm u
      exact ⟨g1, m, E, c, ih i D d⟩
theorem qS {V : List HP} {I h : Hp} (i : Nat) (s : eT V I h) : eT (mv V i) I h := eY i s
theorem cS {A V : List HP} {I h : Hp} : eT (A ++ V) I h ↔ ∃ h1 h2, Join h1 h2 h ∧ eT A I h1 ∧ eT V I h2 := by
  induction A generalizing h with
  | nil => exact ⟨fun s => ⟨Hp.none, h, Join.none h, rfl, s⟩, fun ⟨h1, h2, j, a, b⟩ => by cases a; rw [j.eq_of_none]; exact b⟩
  | cons q A ih =>
    constructor
    · rintro ⟨h1, h2, j, a, b⟩
      obtain ⟨g1, e, g, c, d⟩ := ih.1 b
      obtain ⟨k, i, m⟩ := Join.assoc' g j
      exact ⟨k, e, m, ⟨h1, g1, i, a, c⟩, d⟩
    · rintro ⟨h1, h2, j, ⟨g1, e, g, a, b⟩, c⟩
      obtain ⟨k, i, m⟩ := Join.assoc g j
      exact ⟨g1, k, m, a, ih.2 ⟨e, h2, i, b, c⟩⟩
def Le (g : Hp) (w : World) : Prop := ∀ b o, g b = some o → w.heap[b]? = some o
structure Same (C w : World) : Prop where
  os : w.os = C.os
  tape : w.tape = C.tape
  output : w.output = C.output
def St (C w : World) (V : List HP) : Prop := Same C w ∧ ∃ I h g, Join I h g ∧ Le g w ∧ eT V I h
theorem Le.lt {g : Hp} {w : World} (l : Le g w) {b : Nat} (h : g b ≠ Option.none) : b < w.heap.size := by
  cases e : g b with
  | none => exact absurd e h
  | some o => exact (Array.getElem?_eq_some_iff.1 (l b o e)).1
theorem Le.mono {g g' : Hp} {w : World} (l : Le g w) (h : Hp.le g' g) : Le g' w := fun b o e => l b o (h b o e)
theorem Le.alloc {g : Hp} {w : World} (l : Le g w) (o : Obj) : Le g (w.alloc o) := fun b o' e => by
  have a := l.lt (b := b) (by rw [e]; exact fun h => by cases h)
  show (w.heap.push o)[b]? = some o'
  rw [Array.getElem?_push, if_neg (Nat.ne_of_lt a)]
  exact l b o' e
theorem Same.alloc {C w : World} (s : Same C w) (o : Obj) : Same C (w.alloc o) := ⟨s.os, s.tape, s.output⟩
theorem Same.setCell {C w : World} (s : Same C w) (a : Addr) (v : Value) : Same C (w.setCell a v) := ⟨s.os, s.tape, s.output⟩
theorem Same.drew {C w : World} (s : Same C w) : Same C w.drew := ⟨s.os, s.tape, s.output⟩
theorem St.mv {C w : World} {V : List HP} (s : St C w V) (i : Nat) : St C w (mv V i) := by
  obtain ⟨a, I, h, g, j, l, s⟩ := s
  exact ⟨a, I, h, g, j, l, qS i s⟩
theorem St.rm {C w : World} {V : List HP} (s : St C w V) (i : Nat) : St C w (rm V i) := by
  obtain ⟨a, I, h, g, j, l, s⟩ := s
  obtain ⟨h1, h2, b, _, s'⟩ := eY i s
  obtain ⟨k, e, q⟩ := Join.assoc' b j
  obtain ⟨m, u, D⟩ := Join.assoc e.symm q
  exact ⟨a, I, h2, m, u, l.mono D.right, s'⟩
theorem St.drew {C w : World} {V : List HP} (s : St C w V) : St C w.drew V := by
  obtain ⟨a, I, h, g, j, l, s⟩ := s
  exact ⟨a.drew, I, h, g, j, l, s⟩
theorem St.look {C w : World} {V : List HP} (s : St C w V) (i : Nat) : ∃ I h, (lk V i).p I h ∧ Le I w ∧ Le h w ∧ (∀ b, I b = Option.none ∨ h b = Option.none) := by
  obtain ⟨a, I, h, g, j, l, s⟩ := s
  obtain ⟨h1, h2, m, c, s'⟩ := eY i s
  exact ⟨I, h1, c, l.mono j.left, l.mono (Hp.le_trans m.left j.right), fun b => by
    rcases j.disj b with e | e
    · exact .inl e
    · exact .inr ((m.is_none b).1 e).1⟩
theorem St.turn {C w L : World} {V : List HP} (s : St C w V) (i : Nat) {q : HP} (hs : Same C w → Same C L)
    (f : ∀ I h, (lk V i).p I h → Le I w → Le h w → ∃ u, q.p I u ∧ Le u L ∧ (∀ b, u b ≠ Option.none → h b ≠ Option.none ∨ w.heap.size ≤ b) ∧ ∀ b o, h b = Option.none → w.heap[b]? = some o → L.heap[b]? = some o) :
    St C L (qR V i q) := by
  obtain ⟨a, I, h, g, j, l, s⟩ := s
  obtain ⟨h1, h2, D, c, s'⟩ := eY i s
  obtain ⟨u, hq, hl, hn, T⟩ := f I h1 c (l.mono j.left) (l.mono (Hp.le_trans D.left j.right))
  have J : ∀ b, u b ≠ Option.none → I b = Option.none ∧ h2 b = Option.none := by
    intro b hb
    rcases hn b hb with e | e
    · refine ⟨?_, ?_⟩
      · rcases j.disj b with f | f
        · exact f
        · exact absurd ((D.is_none b).1 f).1 e
      · rcases D.disj b with f | f
        · exact absurd f e
        · exact f
    · have : g b = Option.none := by
        cases hg : g b with
        | none => rfl
        | some o =>
          have := (l.lt (b := b) (by rw [hg]; exact fun h => by cases h))
          omega
      have := (j.is_none b).1 this
      exact ⟨this.1, ((D.is_none b).1 this.2).2⟩
  obtain ⟨m, M⟩ := Join.of_disj (h1 := u) (h2 := h2) (fun b => by
    by_cases e : u b = Option.none
    · exact .inl e
    · exact .inr (J b e).2)
  obtain ⟨g', G⟩ := Join.of_disj (h1 := I) (h2 := m) (fun b => by
    by_cases e : u b = Option.none
    · rcases j.disj b with f | f
      · exact .inl f
      · exact .inr ((M.is_none b).2 ⟨e, ((D.is_none b).1 f).2⟩)
    · exact .inl (J b e).1)
  refine ⟨hs a, I, m, g', G, ?_, lA i M hq s'⟩
  intro b o e
  rcases G.cases e with ⟨E, U⟩ | ⟨E, U⟩
  · refine T b o ?_ (l b o (j.left b o E))
    rcases j.disj b with f | f
    · rw [f] at E; cases E
    · exact ((D.is_none b).1 f).1
  · rcases M.cases E with ⟨F, e4⟩ | ⟨F, e4⟩
    · exact hl b o F
    · refine T b o ?_ (l b o (j.right b o (D.right b o F)))
      rcases D.disj b with f | f
      · exact f
      · rw [f] at F; cases F
theorem St.new {C w m : World} {V : List HP} (s : St C w V) {q : HP} (E : Same C w → Same C m)
    (f : ∀ I, Le I w → ∃ i, q.p I i ∧ Le i m ∧ (∀ b, i b ≠ Option.none → w.heap.size ≤ b)) (D : ∀ (b : Nat) (o : Obj), w.heap[b]? = some o → m.heap[b]? = some o) :
    St C m (q :: V) := by
  have F : St C w (tb :: V) := by
    obtain ⟨a, I, h, g, j, l, s⟩ := s
    exact ⟨a, I, h, g, j, l, Hp.none, h, Join.none h, rfl, s⟩
  refine St.turn F 0 E ?_
  rintro I h e lI _
  obtain ⟨i, a, b, c⟩ := f I lI
  exact ⟨i, a, b, fun k u => .inr (c k u), fun b o _ e => D b o e⟩
theorem St.imp {C w : World} {A B V : List HP} (s : St C w (A ++ V)) (f : ∀ I h, Le I w → Le h w → eT A I h → eT B I h) : St C w (B ++ V) := by
  obtain ⟨a, I, h, g, j, l, s⟩ := s
  obtain ⟨h1, h2, b, c, d⟩ := cS.1 s
  exact ⟨a, I, h, g, j, l, cS.2 ⟨h1, h2, b, f I h1 (l.mono j.left) (l.mono (Hp.le_trans b.left j.right)) c, d⟩⟩
theorem St.share {C w : World} {p q : HP} {V : List HP} (s : St C w (p :: V)) (f : ∀ I J h, Hp.le I J → Hp.le h J → p.p I h → q.p J Hp.none) : St C w (q :: V) := by
  obtain ⟨a, I, h, g, j, l, h1, h2, e, c, d⟩ := s
  obtain ⟨k, b, i⟩ := Join.assoc' e j
  exact ⟨a, k, h2, g, i, l, Hp.none, h2, Join.none h2, f I k h1 b.left b.right c, gf b.left d⟩
end Go.Pg
namespace Go.Pg
def fQ (g : Hp) (b k : Nat) : Option Value :=
  match g b with
  | some (.cells c _ _) => c[k]?
  | _ => none
theorem ia {g g' : Hp} (l : Hp.le g g') {b k : Nat} {v : Value} (h : fQ g b k = some v) : fQ g' b k = some v := by
  unfold fQ at *
  cases e : g b with
  | none => rw [e] at h; cases h
  | some o => rw [l b o e]; rw [e] at h; exact h
theorem gg {g : Hp} {w : World} (l : Le g w) {b k : Nat} {v : Value} (h : fQ g b k = some v) : w.cell? ⟨b, k, none⟩ = some v := by
  unfold fQ at h
  cases e : g b with
  | none => rw [e] at h; cases h
  | some o =>
    have := l b o e
    rw [e] at h
    cases o <;> simp at h
    simp [World.cell?, this, h]
structure Kind (α : Type) where
  sz : Nat
  rd : Hp → α → List Value → Prop
  own : Hp → Hp → α → List Value → Prop
  rd_mono : ∀ {I J x cs}, Hp.le I J → rd I x cs → rd J x cs
  own_mono : ∀ {I J h x cs}, Hp.le I J → own I h x cs → own J h x cs
  own_rd : ∀ {I J h x cs}, Hp.le I J → Hp.le h J → own I h x cs → rd J x cs
  rd_len : ∀ {I x cs}, rd I x cs → cs.length = sz
  own_len : ∀ {I h x cs}, own I h x cs → cs.length = sz
  rd_one : ∀ {I x cs}, rd I x cs → ∀ u ∈ cs, u.oneCell' = true
  own_one : ∀ {I h x cs}, own I h x cs → ∀ u ∈ cs, u.oneCell' = true
def Kind.Closed {α : Type} (K : Kind α) : Prop := ∀ I J h x cs, K.own I h x cs → K.own J h x cs
def Kind.Flat {α : Type} (K : Kind α) : Prop := ∀ I x cs, K.rd I x cs → K.own I Hp.none x cs
section
variable {α : Type} (K : Kind α)
def fB (I : Hp) : Hp → List α → List Value → Prop
  | h, [], cs => h = Hp.none ∧ cs = []
  | h, x :: xs, cs => ∃ h1 h2 c1 a, Join h1 h2 h ∧ cs = c1 ++ a ∧ K.own I h1 x c1 ∧ fB I h2 xs a
theorem iX {K : Kind α} {I J : Hp} (l : Hp.le I J) {h : Hp} {xs : List α} {cs : List Value} (o : fB K I h xs cs) : fB K J h xs cs := by
  induction xs generalizing h cs with
  | nil => exact o
  | cons x xs ih =>
    obtain ⟨h1, h2, c1, g, j, e, a, b⟩ := o
    exact ⟨h1, h2, c1, g, j, e, K.own_mono l a, ih b⟩
theorem lD {K : Kind α} (i : K.Closed) {I J : Hp} {h : Hp} {xs : List α} {cs : List Value} (o : fB K I h xs cs) : fB K J h xs cs := by
  induction xs generalizing h cs with
  | nil => exact o
  | cons x xs ih =>
    obtain ⟨h1, h2, c1, g, j, e, a, b⟩ := o
    exact ⟨h1, h2, c1, g, j, e, i _ _ _ _ _ a, ih b⟩
theorem jN {K : Kind α} {I h : Hp} {xs : List α} {cs : List Value} (o : fB K I h xs cs) : cs.length = xs.length * K.sz := by
  induction xs generalizing h cs with
  | nil => rw [o.2]; simp
  | cons x xs ih =>
    obtain ⟨h1, h2, c1, g, j, e, a, b⟩ := o
    rw [e, List.length_append, K.own_len a, ih b, List.length_cons, Nat.succ_mul, Nat.add_comm]
theorem oD {K : Kind α} {I h : Hp} {xs : List α} {cs : List Value} (o : fB K I h xs cs) : ∀ u ∈ cs, u.oneCell' = true := by
  induction xs generalizing h cs with
  | nil => intro u g; rw [o.2] at g; cases g
  | cons x xs ih =>
    obtain ⟨h1, h2, c1, i, j, e, a, b⟩ := o
    intro u g
    rw [e] at g
    rcases List.mem_append.1 g with g | g
    · exact K.own_one a u g
    · exact ih b u g
theorem jO {K : Kind α} {I h h1 h2 : Hp} {xs ys : List α} {c1 g : List Value} (j : Join h1 h2 h) (a : fB K I h1 xs c1) (b : fB K I h2 ys g) : fB K I h (xs ++ ys) (c1 ++ g) := by
  induction xs generalizing h h1 c1 with
  | nil =>
    obtain ⟨i, m⟩ := a
    subst i; subst m
    rw [j.eq_of_none]
    exact b
  | cons x xs ih =>
    obtain ⟨g1, F, d1, d2, u, e, p, q⟩ := a
    obtain ⟨k, D, E⟩ := Join.assoc u j
    exact ⟨g1, k, d1, d2 ++ g, E, by rw [e, List.append_assoc], p, ih D q⟩
theorem mq {K : Kind α} {I h : Hp} {xs ys : List α} {cs : List Value} (o : fB K I h (xs ++ ys) cs) : ∃ h1 h2 c1 g, Join h1 h2 h ∧ cs = c1 ++ g ∧ fB K I h1 xs c1 ∧ fB K I h2 ys g := by
  induction xs generalizing h cs with
  | nil => exact ⟨Hp.none, h, [], cs, Join.none h, rfl, ⟨rfl, rfl⟩, o⟩
  | cons x xs ih =>
    obtain ⟨h1, h2, c1, g, j, e, a, b⟩ := o
    obtain ⟨g1, m, d1, d2, u, i, p, q⟩ := ih b
    obtain ⟨k, D, E⟩ := Join.assoc' u j
    exact ⟨k, m, c1 ++ d1, d2, E, by rw [e, i, List.append_assoc], ⟨h1, g1, c1, d1, D, rfl, a, p⟩, q⟩
theorem na {K : Kind α} {I h : Hp} {xs : List α} {cs : List Value} (o : fB K I h xs cs) {i : Nat} {x : α} (J : xs[i]? = some x) :
    ∃ a c b h1 h2, cs = a ++ c ++ b ∧ a.length = i * K.sz ∧ Join h1 h2 h ∧ K.own I h1 x c ∧
      ∀ D F x' E g', Hp.le I D → Join F h2 g' → K.own D F x' E → fB K D g' (xs.set i x') (a ++ E ++ b) := by
  have G : i < xs.length := (List.getElem?_eq_some_iff.1 J).1
  have g : xs = xs.take i ++ (x :: xs.drop (i + 1)) := by
    have : xs.drop i = x :: xs.drop (i + 1) := by
      rw [List.drop_eq_getElem_cons G]
      congr 1
      rw [List.getElem?_eq_getElem G] at J
      exact Option.some.inj J
    rw [← this, List.take_append_drop]
  rw [g] at o
  obtain ⟨h1, h2, c1, c2, j, e, L, g1, T, d1, d2, U, M, p, q⟩ := mq o
  obtain ⟨k, k1, k2⟩ := Join.assoc' U j
  obtain ⟨m, m1, m2⟩ := Join.assoc k1.symm k2
  refine ⟨c1, d1, d2, g1, m, by rw [e, M, List.append_assoc], ?_, m2, p, ?_⟩
  · rw [jN L, List.length_take, Nat.min_eq_left (Nat.le_of_lt G)]
  · intro D F x' E g' l jj ox
    have u : xs.set i x' = xs.take i ++ (x' :: xs.drop (i + 1)) := by
      rw [List.set_eq_take_append_cons_drop, if_pos G]
    rw [u, List.append_assoc]
    obtain ⟨n, n1, n2⟩ := Join.assoc' m1 jj
    obtain ⟨q1, q2, q3⟩ := Join.assoc n1.symm n2
    exact jO q3 (iX l L) ⟨F, T, E, d2, q2, rfl, ox, iX l q⟩
theorem qT {K : Kind α} {I J h : Hp} {xs : List α} {cs : List Value} (o : fB K I h xs cs) (lI : Hp.le I J) (E : Hp.le h J) {i : Nat} {x : α} (D : xs[i]? = some x) :
    ∃ c, K.rd J x c ∧ ∀ k u, c[k]? = some u → cs[i * K.sz + k]? = some u := by
  obtain ⟨a, c, b, h1, h2, e, m, j, p, _⟩ := na o D
  refine ⟨c, K.own_rd lI (Hp.le_trans j.left E) p, fun k u g => ?_⟩
  have q := (List.getElem?_eq_some_iff.1 g).1
  rw [e, List.append_assoc, List.getElem?_append_right (by omega), m, Nat.add_sub_cancel_left, List.getElem?_append_left q]
  exact g
def o0 (I : Hp) (v : Value) (xs : List α) : Prop :=
  ∃ A c, v = .slice A xs.length c ∧ xs.length ≤ c ∧ xs.length ≤ maxLen ∧
    (0 < xs.length → ∃ g a, A = some ⟨g, a, none⟩ ∧ ∀ j x, xs[j]? = some x → ∃ cs, K.rd I x cs ∧ ∀ i u, cs[i]? = some u → fQ I g (a + j * K.sz + i) = some u)
def nb (e : Nat) (I h : Hp) (v : Value) (xs : List α) : Prop :=
  (∃ A, v = .slice A 0 0 ∧ xs = [] ∧ h = Hp.none) ∨
  ∃ g c pre b a fr h1, v = .slice (some ⟨g, pre.length, none⟩) xs.length c ∧ xs.length ≤ c ∧ c ≤ maxLen ∧ a.length = (c - xs.length) * K.sz ∧
    (fr = (0, 0) ∨ pre.length + b.length + a.length ≤ fr.1) ∧ Join (Hp.one g (.cells (pre ++ b ++ a).toArray e fr)) h1 h ∧ fB K I h1 xs b
theorem jP {K : Kind α} {I J : Hp} (l : Hp.le I J) {v : Value} {xs : List α} (h : o0 K I v xs) : o0 K J v xs := by
  obtain ⟨A, c, e, h1, h2, D⟩ := h
  refine ⟨A, c, e, h1, h2, fun F => ?_⟩
  obtain ⟨g, m, q, E⟩ := D F
  refine ⟨g, m, q, fun j x L => ?_⟩
  obtain ⟨cs, a, b⟩ := E j x L
  exact ⟨cs, K.rd_mono l a, fun i u G => ia l (b i u G)⟩
theorem lE {K : Kind α} {e : Nat} {I J h : Hp} (l : Hp.le I J) {v : Value} {xs : List α} (o : nb K e I h v xs) : nb K e J h v xs := by
  rcases o with o | ⟨g, c, pre, m, i, fr, h1, a, b, d, s, f, j, o⟩
  · exact .inl o
  · exact   .inr ⟨g, c, pre, m, i, fr, h1, a, b, d, s, f, j, iX l o⟩
theorem mr {K : Kind α} (q : K.Closed) {e : Nat} {I J h : Hp} {v : Value} {xs : List α} (o : nb K e I h v xs) : nb K e J h v xs := by
  rcases o with o | ⟨g, c, pre, m, i, fr, h1, a, b, d, s, f, j, o⟩
  · exact .inl o
  · exact   .inr ⟨g, c, pre, m, i, fr, h1, a, b, d, s, f, j, lD q o⟩
theorem iy {K : Kind α} {e : Nat} {I J h : Hp} {v : Value} {xs : List α} (lI : Hp.le I J) (G : Hp.le h J) (o : nb K e I h v xs) : o0 K J v xs := by
  rcases o with ⟨A, rfl, rfl, rfl⟩ | ⟨g, c, pre, D, m, fr, h1, a, b, d, s, f, j, o⟩
  · exact ⟨A, 0, rfl, Nat.le_refl _, Nat.zero_le _, fun h => absurd h (Nat.lt_irrefl _)⟩
  · refine ⟨_, c, a, b, Nat.le_trans b d, fun _ => ⟨g, pre.length, rfl, fun k x T => ?_⟩⟩
    obtain ⟨cs, p, q⟩ := qT o lI (Hp.le_trans j.right G) T
    refine ⟨cs, p, fun i u M => ?_⟩
    have L : J g = some (.cells (pre ++ D ++ m).toArray e fr) := G _ _ (j.left g _ (by simp [Hp.one]))
    unfold fQ
    rw [L]
    show (pre ++ D ++ m).toArray[pre.length + k * K.sz + i]? = some u
    have F := q i u M
    have E := (List.getElem?_eq_some_iff.1 F).1
    rw [List.getElem?_toArray, List.append_assoc, List.getElem?_append_right (by omega), show pre.length + k * K.sz + i - pre.length = k * K.sz + i by omega, List.getElem?_append_left E]
    exact F
end
def Kind.scal {α : Type} (enc : α → Value) (h1 : ∀ x, (enc x).oneCell' = true) : Kind α where
  sz := 1
  rd _ x cs := cs = [enc x]
  own _ h x cs := h = Hp.none ∧ cs = [enc x]
  rd_mono _ h := h
  own_mono _ h := h
  own_rd _ _ h := h.2
  rd_len h := by rw [h]; rfl
  own_len h := by rw [h.2]; rfl
  rd_one h u hu := by rw [h] at hu; rw [List.mem_singleton.1 hu]; exact h1 _
  own_one h u hu := by rw [h.2] at hu; rw [List.mem_singleton.1 hu]; exact h1 _
def aJ (s : aO) : Value := .string ⟨s.toArray⟩
def Kind.int (k : IntKind) : Kind Int := Kind.scal (Value.int k) (fun _ => rfl)
def Kind.bool : Kind Bool := Kind.scal Value.bool (fun _ => rfl)
def Kind.str : Kind aO := Kind.scal aJ (fun _ => rfl)
def Kind.sl {α : Type} (e : Nat) (K : Kind α) : Kind (List α) where
  sz := 1
  rd I xs cs := ∃ v, cs = [v] ∧ o0 K I v xs
  own I h xs cs := ∃ v, cs = [v] ∧ nb K e I h v xs
  rd_mono l h := by obtain ⟨v, e, a⟩ := h; exact ⟨v, e, jP l a⟩
  own_mono l h := by obtain ⟨v, e, a⟩ := h; exact ⟨v, e, lE l a⟩
  own_rd l m h := by obtain ⟨v, e, a⟩ := h; exact ⟨v, e, iy l m a⟩
  rd_len h := by obtain ⟨v, e, a⟩ := h; rw [e]; rfl
  own_len h := by obtain ⟨v, e, a⟩ := h; rw [e]; rfl
  rd_one h u hu := by
    obtain ⟨v, e, A, c, rfl, _⟩ := h
    rw [e] at hu; rw [List.mem_singleton.1 hu]; rfl
  own_one h u hu := by
    obtain ⟨v, e, a⟩ := h
    rw [e] at hu; rw [List.mem_singleton.1 hu]
    rcases a with ⟨A, rfl, _⟩ | ⟨g, c, pre, i, b, fr, h1, rfl, _⟩ <;> rfl
def Kind.pair {α β : Type} (A : Kind α) (B : Kind β) : Kind (α × β) where
  sz := A.sz + B.sz
  rd I x cs := ∃ c1 g, cs = c1 ++ g ∧ A.rd I x.1 c1 ∧ B.rd I x.2 g
  own I h x cs := ∃ h1 h2 c1 g, Join h1 h2 h ∧ cs = c1 ++ g ∧ A.own I h1 x.1 c1 ∧ B.own I h2 x.2 g
  rd_mono l h := by obtain ⟨c1, g, e, a, b⟩ := h; exact ⟨c1, g, e, A.rd_mono l a, B.rd_mono l b⟩
  own_mono l h := by obtain ⟨h1, h2, c1, g, j, e, a, b⟩ := h; exact ⟨h1, h2, c1, g, j, e, A.own_mono l a, B.own_mono l b⟩
  own_rd l m h := by
    obtain ⟨h1, h2, c1, g, j, e, a, b⟩ := h
    exact ⟨c1, g, e, A.own_rd l (Hp.le_trans j.left m) a, B.own_rd l (Hp.le_trans j.right m) b⟩
  rd_len h := by obtain ⟨c1, g, e, a, b⟩ := h; rw [e, List.length_append, A.rd_len a, B.rd_len b]
  own_len h := by obtain ⟨h1, h2, c1, g, j, e, a, b⟩ := h; rw [e, List.length_append, A.own_len a, B.own_len b]
  rd_one h u i := by
    obtain ⟨c1, g, e, a, b⟩ := h
    rw [e] at i
    rcases List.mem_append.1 i with i | i
    · exact A.rd_one a u i
    · exact B.rd_one b u i
  own_one h u i := by
    obtain ⟨h1, h2, c1, g, j, e, a, b⟩ := h
    rw [e] at i
    rcases List.mem_append.1 i with i | i
    · exact A.own_one a u i
    · exact B.own_one b u i
def Kind.iso {α β : Type} (K : Kind α) (f : β → α) : Kind β where
  sz := K.sz
  rd I x cs := K.rd I (f x) cs
  own I h x cs := K.own I h (f x) cs
  rd_mono := K.rd_mono
  own_mono := K.own_mono
  own_rd := K.own_rd
  rd_len := K.rd_len
  own_len := K.own_len
  rd_one := K.rd_one
  own_one := K.own_one
def Kind.share {α : Type} (K : Kind α) : Kind α where
  sz := K.sz
  rd := K.rd
  own I h x cs := h = Hp.none ∧ K.rd I x cs
  rd_mono := K.rd_mono
  own_mono l h := ⟨h.1, K.rd_mono l h.2⟩
  own_rd l _ h := K.rd_mono l h.2
  rd_len := K.rd_len
  own_len h := K.rd_len h.2
  rd_one := K.rd_one
  own_one h := K.rd_one h.2
theorem Kind.scal_closed {α : Type} (enc : α → Value) (h1 : ∀ x, (enc x).oneCell' = true) : (Kind.scal enc h1).Closed := fun _ _ _ _ _ h => h
theorem Kind.pair_closed {α β : Type} {A : Kind α} {B : Kind β} (a : A.Closed) (b : B.Closed) : (Kind.pair A B).Closed :=
  fun _ _ _ _ _ ⟨h1, h2, c1, g, j, e, p, q⟩ => ⟨h1, h2, c1, g, j, e, a _ _ _ _ _ p, b _ _ _ _ _ q⟩
theorem Kind.iso_closed {α β : Type} {K : Kind α} (h : K.Closed) (f : β → α) : (Kind.iso K f).Closed := fun _ _ _ _ _ o => h _ _ _ _ _ o
theorem Kind.scal_flat {α : Type} (enc : α → Value) (h1 : ∀ x, (enc x).oneCell' = true) : (Kind.scal enc h1).Flat := fun _ _ _ h => ⟨rfl, h⟩
def bx (b : Nat) (cs : Array Value) (T : Nat) : HP := ⟨fun _ h => h = Hp.one b (.cells cs T (0, 0)), fun _ e => e⟩
def ow {α : Type} (K : Kind α) (e : Nat) (v : Value) (xs : List α) : HP := ⟨fun I h => nb K e I h v xs, fun l o => lE l o⟩
def aQ {α : Type} (K : Kind α) (v : Value) (xs : List α) : HP := ⟨fun I h => h = Hp.none ∧ o0 K I v xs, fun l o => ⟨o.1, jP l o.2⟩⟩
end Go.Pg
namespace Go.Pg
structure Cx where
  P : Program
  n : Nn
  C : World
def TC (X : Cx) (V : List HP) (σ : cY) (c : Code) (Q : Exit → cY → World → Prop) : Prop := ∀ w, St X.C w V → W X.P X.n c Q σ w
def TL (X : Cx) (ops : Array Oper) (V : List HP) (σ : cY) (rest : List Oper) (Q : Exit → cY → World → Prop) : Prop := ∀ w, St X.C w V → WL X.P X.n ops rest Q σ w
def TQ (X : Cx) (V : List HP) (σ : cY) (e : Exit) (Q : Exit → cY → World → Prop) : Prop := ∀ w, St X.C w V → Q e σ w
def Nx (X : Cx) (c : Code) (Q : Exit → cY → World → Prop) : cY → World → Prop := fun σ w => W X.P X.n c Q σ w
section
variable {X : Cx} {V : List HP} {σ : cY} {Q : Exit → cY → World → Prop} {x y : Code} {ops : Array Oper} {rest : List Oper} {o : Oper}
theorem aD (h : TC X V σ x (fK (Nx X y Q) Q)) : TC X V σ (.seq x y) Q := fun w s => uV (h w s)
theorem aN (h : TQ X V σ .normal Q) : TC X V σ .skip Q := fun w s => sZ (h w s)
theorem aW (h : TQ X V σ .ret Q) : TC X V σ .ret Q := fun w s => uW (h w s)
theorem bP {id : Nat} (h : TQ X V σ (.exit id) Q) : TC X V σ (.exit id) Q := fun w s => t6 (h w s)
theorem aM {id : Nat} (h : TC X V σ x (gn id Q)) : TC X V σ (.block id x) Q := fun w s => qQ (h w s)
theorem aA {id : Nat} {l : List Oper} (h : TL X l.toArray V σ l Q) : TC X V σ (.region id l.toArray false) Q := fun w s => oB (h w s)
theorem aL {k : Operand} {b : Bool} (e : ev σ k = .bool b) (a : b = true) (h : TC X V σ x Q) : TC X V σ (.cond k x y) Q := fun w s => oA e (by rw [a]; exact h w s)
theorem aI {k : Operand} {b : Bool} (e : ev σ k = .bool b) (a : b = false) (h : TC X V σ y Q) : TC X V σ (.cond k x y) Q := fun w s => oA e (by rw [a]; exact h w s)
theorem aC (h : TQ X V σ .normal Q) : TL X ops V σ [] Q := fun w s => t7 (h w s)
theorem aB (h : TC X V σ y Q) : TQ X V σ .normal (fK (Nx X y Q) Q) := fun w s => h w s
theorem aR {id : Nat} {K : cY → World → Prop} (h : TQ X V σ (.exit id) Q) : TQ X V σ (.exit id) (fK K Q) := fun w s => h w s
theorem bA {K : cY → World → Prop} (h : TQ X V σ .ret Q) : TQ X V σ .ret (fK K Q) := fun w s => h w s
theorem bE {id : Nat} (h : TQ X V σ .normal Q) : TQ X V σ (.exit id) (gn id Q) := fun w s => by
  show cond (Nat.beq id id) _ _
  rw [show Nat.beq id id = true from Nat.beq_refl id]
  exact h w s
theorem aZ {id : Nat} (h : TQ X V σ .normal Q) : TQ X V σ .normal (gn id Q) := fun w s => h w s
theorem bB {id : Nat} (h : TQ X V σ .ret Q) : TQ X V σ .ret (gn id Q) := fun w s => h w s
theorem kG {id a : Nat} (b : Nat.beq a id = false) (h : TQ X V σ (.exit a) Q) : TQ X V σ (.exit a) (gn id Q) := fun w s => by
  show cond (Nat.beq a id) _ _
  rw [b]
  exact h w s
theorem nc {ops : Array Oper} {σ : cY} {o : Oper} {j : Nat} {b c : Bool} (h : o.guard = some (j, b)) (a : kF ops σ j = some c) (e : c = b) : eA ops σ o = true := by
  unfold eA; rw [h]; simp only [a, e]; cases b <;> rfl
theorem lF {ops : Array Oper} {σ : cY} {o : Oper} {j : Nat} {b c : Bool} (h : o.guard = some (j, b)) (a : kF ops σ j = some c) (e : c = !b) : eA ops σ o = false := by
  unfold eA; rw [h]; simp only [a, e]; cases b <;> rfl
theorem uX (a : dok X.n o.dst = true) (hw : eA ops σ o = false) (h : TL X ops V (fx σ o.dst undef) rest Q) : TL X ops V σ (o :: rest) Q := fun w s => ta a hw (h w s)
def kH (k : IntKind) : BinOp → Int → Int → Option Value
  | .add, a, b => some (.int k (k.wrap (a + b)))
  | .sub, a, b => some (.int k (k.wrap (a - b)))
  | .mul, a, b => some (.int k (k.wrap (a * b)))
  | .and, a, b => some (.int k (bits .and k a b))
  | .or, a, b => some (.int k (bits .or k a b))
  | .xor, a, b => some (.int k (bits .xor k a b))
  | .andNot, a, b => some (.int k (bits .andNot k a b))
  | .eql, a, b => some (.bool (a == b))
  | .neq, a, b => some (.bool (a != b))
  | .lss, a, b => some (.bool (decide (a < b)))
  | .leq, a, b => some (.bool (decide (a ≤ b)))
  | .gtr, a, b => some (.bool (decide (a > b)))
  | .geq, a, b => some (.bool (decide (a ≥ b)))
  | _, _, _ => none
def pv (σ : cY) : Op → Option Value
  | .move x | .assign x => some (ev σ x)
  | .pick c a b => match ev σ c with
    | .bool t => some (cond t (ev σ a) (ev σ b))
    | _ => none
  | .unOp .not _ x => match ev σ x with
    | .bool b => some (.bool !b)
    | _ => none
  | .unOp .neg _ x => match ev σ x with
    | .int k a => some (.int k (k.wrap (0 - a)))
    | _ => none
  | .unOp .xor _ x => match ev σ x with
    | .int k a => some (.int k (bits .xor k (if k.signed then -1 else k.max) a))
    | _ => none
  | .binOp op _ x y _ => match ev σ x, ev σ y with
    | .int .i64 a, .int .i64 b => kH .i64 op a b
    | .int .u8 a, .int .u8 b => kH .u8 op a b
    | .int .i32 a, .int .i32 b => kH .i32 op a b
    | .int .u64 a, .int .u64 b => kH .u64 op a b
    | .int .u32 a, .int .u32 b => kH .u32 op a b
    | _, _ => none
  | .extract x i => match ev σ x with
    | .tuple vs => vs[i]?
    | _ => none
  | .makeFunc fn first captured => some (.func fn (first.toList.map (ev σ)).toArray (captured.toList.map (ev σ)).toArray)
  | .nilCheck x => match ev σ x with
    | .pointer (some a) => some (.pointer (some a))
    | .func (.func f) a c => some (.func (.func f) a c)
    | _ => none
  | _ => none
theorem oE {P : Program} {w : World} {k : IntKind} {op : BinOp} {a b : Int} {v : Value} (t : TypeId) (x y : Operand) (h : kH k op a b = some v) :
    (do eqGuard op t x y (.int k a) (.int k b); binOp op t (.int k a) (.int k b) : Sem Value).run P w = .ok v w := by
  cases op <;> simp only [kH, Option.some.injEq, reduceCtorEq] at h <;> subst h <;>
    simp [eqGuard_at_int, binOp, Op.intArith, intBits_and, intBits_or, intBits_xor, intBits_andNot, Op.intCmp]
theorem tc {P : Program} {w : World} {v : Value} (h : pv σ o.op = some v) : (execOp (ev σ) o).run P w = .ok (.value v) w := by
  unfold execOp
  revert h
  generalize o.op = op
  intro h
  cases op <;> simp only [pv, reduceCtorEq] at h
  case move x => simp only [Option.some.injEq] at h; subst h; rfl
  case assign x => simp only [Option.some.injEq] at h; subst h; rfl
  case pick c a b =>
    cases hc : ev σ c <;> simp only [hc, reduceCtorEq, Option.some.injEq] at h
    subst h
    simp only [hc, asBool, Sem.run_bind, Sem.run_pure, Result.andThen_ok]
    rename_i t
    cases t <;> rfl
  case unOp u t x =>
    cases u <;> simp only [reduceCtorEq] at h <;> cases j : ev σ x <;> simp only [j, reduceCtorEq, Option.some.injEq] at h <;> subst h <;>
      simp [j, Op.unary, Op.intArith, intBits_xor]
  case binOp op t x y ty =>
    have g : ∀ (k : IntKind) (a b : Int), ev σ x = .int k a → ev σ y = .int k b → kH k op a b = some v →
        (do let r ← (do eqGuard op t x y (ev σ x) (ev σ y); binOp op t (ev σ x) (ev σ y) : Sem Value); pure (Next.value r) : Sem Next).run P w = .ok (.value v) w := by
      intro k a b j q m
      rw [j, q]
      simp only [Sem.run_bind] at *
      have := oE (P := P) (w := w) t x y m
      simp only [Sem.run_bind] at this
      rw [this]
      rfl
    split at h
    · exact g _ _ _ ‹_› ‹_› h
    · exact g _ _ _ ‹_› ‹_› h
    · exact g _ _ _ ‹_› ‹_› h
    · exact g _ _ _ ‹_› ‹_› h
    · exact g _ _ _ ‹_› ‹_› h
    · cases h
  case extract x i =>
    cases j : ev σ x <;> simp only [j, reduceCtorEq] at h
    simp [j, Instr.extract, h]
  case makeFunc fn first captured =>
    simp only [Option.some.injEq] at h; subst h
    simp [Instr.makeFunc]
    exact ⟨by apply Array.ext'; simp, by apply Array.ext'; simp⟩
  case nilCheck x =>
    split at h
    · rename_i a e
      simp only [Option.some.injEq] at h
      subst h
      simp [e]
    · rename_i f a c e
      simp only [Option.some.injEq] at h
      subst h
      simp [e]
    · cases h
def VO (X : Cx) (V : List HP) (σ : cY) (o : Oper) (v : Value) : Prop := ∀ w, St X.C w V → (execOp (ev σ) o).run X.P w = .ok (.value v) w
theorem wK {v : Value} (a : dok X.n o.dst = true) (hw : eA ops σ o = true) (b : VO X V σ o v) (h : TL X ops V (fx σ o.dst v) rest Q) : TL X ops V σ (o :: rest) Q :=
  fun w s => eW a hw (by rw [b w s]; exact h w s)
theorem gJ {v : Value} (a : pv σ o.op = some v) : VO X V σ o v := fun _ _ => tc a
end
end Go.Pg
namespace Go.Pg
def oF {α : Type} : List α → Nat → Option α
  | [], _ => none
  | x :: _, 0 => some x
  | _ :: l, k + 1 => oF l k
theorem iY {α : Type} (l : List α) (k : Nat) : oF l k = l[k]? := by
  induction l generalizing k with
  | nil => rfl
  | cons x l ih =>
    cases k with
    | zero => rfl
    | succ k => simpa [oF] using ih k
theorem gK {α : Type} [Inhabited α] {xs : List α} {i : Int} (a : 0 ≤ i) (h1 : i < xs.length) : xs[i.toNat]? = some (ix xs i) := by
  unfold ix
  have : i.toNat < xs.length := by omega
  rw [List.getD_eq_getElem?_getD, List.getElem?_eq_getElem this]
  rfl
def aK (b : Nat) (cs : List Value) (T : Nat) : HP := bx b cs.toArray T
def fy (P : Program) (T : TypeId) : Option Bool := (P.underlying T).map fun d => match d with | .struct _ | .array _ _ => true | _ => false
def gb (P : Program) (T : TypeId) : Option Nat := (P.info? T).map (·.size)
def fR (P : Program) (T : TypeId) : Option Nat := (P.info? T).map (·.bytes)
def jQ (P : Program) (T : TypeId) : Option (List Value) := ((P.info? T).bind (·.zero)).map (·.cells.toList)
def km (P : Program) (T : TypeId) : Option TypeId := match P.underlying T with
  | some (.slice e) => some e
  | _ => none
def dB (P : Program) (S : TypeId) (f : Nat) : Option Nat := match P.underlying S with
  | some (.struct fs) => match fs[f]? with
    | some fl => match P.info? fl.type with
      | some i => if i.size = 0 then none else some fl.offset
      | none => none
    | none => none
  | _ => none
section
variable {P : Program} {w : World}
theorem iZ {T : TypeId} {b : Bool} (h : fy P T = some b) : (isAgg T).run P w = .ok b w := by
  unfold fy at h
  cases hd : P.underlying T with
  | none => rw [hd] at h; cases h
  | some d =>
    rw [hd] at h
    simp only [Option.map_some, Option.some.injEq] at h
    subst h
    unfold isAgg
    rw [Sem.run_bind, run_underlying hd w]
    cases d <;> rfl
theorem eE {T : TypeId} {n : Nat} (h : gb P T = some n) : (sizeOf T).run P w = .ok n w := by
  unfold gb at h
  cases hd : P.info? T with
  | none => rw [hd] at h; cases h
  | some d =>
    rw [hd] at h
    simp only [Option.map_some, Option.some.injEq] at h
    subst h
    simp [sizeOf, typeInfo, hd]
theorem iz {T : TypeId} {cs : List Value} (h : jQ P T = some cs) : ∃ z, (zeroValue T).run P w = .ok z w ∧ z.cells = cs.toArray := by
  unfold jQ at h
  cases hd : P.info? T with
  | none => rw [hd] at h; cases h
  | some d =>
    rw [hd] at h
    cases hz : d.zero with
    | none => simp [hz] at h
    | some z =>
      refine ⟨z, by simp [zeroValue, typeInfo, hd, hz], ?_⟩
      simp [hz] at h
      rw [← h]
theorem gp {T e : TypeId} (h : km P T = some e) : P.underlying T = some (.slice e) := by
  unfold km at h
  split at h
  · rename_i b a
    simp only [Option.some.injEq] at h
    rw [a, h]
  · cases h
theorem fe {T : TypeId} {a : Addr} {v : Value} (h : fy P T = some false) (b : w.cell? a = some v) : (loadVar T a).run P w = .ok v w := by
  unfold loadVar
  rw [Sem.run_bind, iZ h]
  simp [b]
theorem ff {T : TypeId} {a : Addr} {cs : List Value} (h : fy P T = some true) (e : gb P T = some cs.length) (b : ∀ j u, cs[j]? = some u → w.cell? (a.add j) = some u) :
    (loadVar T a).run P w = .ok (.agg cs.toArray) w := by
  unfold loadVar
  rw [Sem.run_bind, iZ h]
  simp [Sem.run_bind, eE e, run_loadCells_list (P := P) w a cs b]
theorem fi (g k j : Nat) : (⟨g, k, none⟩ : Addr).add j = ⟨g, k + j, none⟩ := by
  unfold Addr.add
  split
  · rename_i h; subst h; rfl
  · rfl
end
section
variable {X : Cx} {V : List HP} {σ : cY} {Q : Exit → cY → World → Prop} {ops : Array Oper} {rest : List Oper}
variable {d : Option Nat} {ty : TypeId} {pos : String} {af : Array Edge} {gd : Option (Nat × Bool)}
theorem bM {T : TypeId} {cs : List Value} (q : dok X.n d = true) (hw : eA ops σ ⟨d, .alloc T, ty, pos, af, gd⟩ = true) (D : jQ X.P T = some cs)
    (h : ∀ b, TL X ops (aK b cs T :: V) (fx σ d (.pointer (some ⟨b, 0, none⟩))) rest Q) : TL X ops V σ (⟨d, .alloc T, ty, pos, af, gd⟩ :: rest) Q := by
  intro w s
  refine eW q hw ?_
  obtain ⟨z, j, m⟩ := iz (P := X.P) (w := w) D
  have u : (execOp (ev σ) ⟨d, .alloc T, ty, pos, af, gd⟩).run X.P w = .ok (.value (.pointer (some ⟨w.heap.size, 0, none⟩))) (w.alloc (.cells cs.toArray T)) := by
    simp [execOp, Instr.alloc, j, newVar, newRow, m]
  rw [u]
  refine h _ _ (St.new s (fun a => a.alloc _) (fun I _ => ⟨_, rfl, ?_, ?_⟩) ?_)
  · intro b o e
    simp only [Hp.one] at e
    split at e
    · rename_i g
      subst g
      rw [← Option.some.inj e]
      show (w.heap.push _)[w.heap.size]? = _
      simp
    · cases e
  · intro b g
    simp only [Hp.one] at g
    split at g
    · rename_i e; exact Nat.le_of_eq e.symm
    · exact absurd rfl g
  · intro b o e
    have i := (Array.getElem?_eq_some_iff.1 e).1
    show (w.heap.push _)[b]? = _
    rw [Array.getElem?_push, if_neg (Nat.ne_of_lt i)]
    exact e
theorem gh {T : TypeId} {x : Operand} {cs : List Value} (j : dok X.n d = true) (hw : eA ops σ ⟨d, .box T x, ty, pos, af, gd⟩ = true) (q : (ev σ x).cells.toList = cs)
    (h : ∀ b, TL X ops (aK b cs T :: V) (fx σ d (.pointer (some ⟨b, 0, none⟩))) rest Q) : TL X ops V σ (⟨d, .box T x, ty, pos, af, gd⟩ :: rest) Q := by
  intro w s
  refine eW j hw ?_
  have m : (execOp (ev σ) ⟨d, .box T x, ty, pos, af, gd⟩).run X.P w = .ok (.value (.pointer (some ⟨w.heap.size, 0, none⟩))) (w.alloc (.cells cs.toArray T)) := by
    subst q
    simp [execOp, Instr.box, newVar, newRow]
  rw [m]
  refine h _ _ (St.new s (fun a => a.alloc _) (fun I _ => ⟨_, rfl, ?_, ?_⟩) ?_)
  · intro b o e
    simp only [Hp.one] at e
    split at e
    · rename_i g
      subst g
      rw [← Option.some.inj e]
      show (w.heap.push _)[w.heap.size]? = _
      simp
    · cases e
  · intro b g
    simp only [Hp.one] at g
    split at g
    · rename_i e; exact Nat.le_of_eq e.symm
    · exact absurd rfl g
  · intro b o e
    have i := (Array.getElem?_eq_some_iff.1 e).1
    show (w.heap.push _)[b]? = _
    rw [Array.getElem?_push, if_neg (Nat.ne_of_lt i)]
    exact e
theorem iA {C w : World} {V : List HP} (s : St C w V) (i : Nat) {b : Nat} {cs : List Value} {T : Nat} (a : lk V i = aK b cs T) : w.heap[b]? = some (.cells cs.toArray T (0, 0)) := by
  obtain ⟨I, h, p, _, l, _⟩ := s.look i
  rw [a] at p
  exact l b _ (by rw [show h = _ from p]; simp [Hp.one])
theorem iB {w : World} {b : Nat} {cs : List Value} {T : Nat} (h : w.heap[b]? = some (.cells cs.toArray T (0, 0))) (k : Nat) : w.cell? ⟨b, k, none⟩ = cs[k]? := by
  simp [World.cell?, h]
theorem te {T : TypeId} {x : Operand} {b k : Nat} {cs : List Value} {a : Nat} {v : Value} (i : Nat) (g : fy X.P T = some false)
    (e : lk V i = aK b cs a) (m : ev σ x = .pointer (some ⟨b, k, none⟩)) (j : oF cs k = some v) : VO X V σ ⟨d, .load T x, ty, pos, af, gd⟩ v := by
  intro w s
  have h := iA s i e
  simp only [execOp, Instr.loadAt, m, Instr.sureAddr, Sem.run_bind, Sem.run_pure, Result.andThen_ok, fe g (show w.cell? ⟨b, k, none⟩ = some v by rw [iB h, ← iY]; exact j)]
theorem qU {T : TypeId} {x : Operand} {b k n : Nat} {cs : List Value} {g : Nat} (i : Nat) (m : fy X.P T = some true) (E : gb X.P T = some n)
    (h : lk V i = aK b cs g) (F : ev σ x = .pointer (some ⟨b, k, none⟩)) (D : ((cs.drop k).take n).length = n) : VO X V σ ⟨d, .load T x, ty, pos, af, gd⟩ (.agg ((cs.drop k).take n).toArray) := by
  intro w s
  have q := iA s i h
  · have := ff (P := X.P) (w := w) (a := ⟨b, k, none⟩) (cs := (cs.drop k).take n) m (by rw [D]; exact E) (by
      intro j u e
      rw [fi, iB q]
      rw [List.getElem?_take] at e
      split at e
      · rw [List.getElem?_drop] at e; exact e
      · cases e)
    simp only [execOp, Instr.loadAt, F, Instr.sureAddr, Sem.run_bind, Sem.run_pure, Result.andThen_ok, this]
theorem qV {S : TypeId} {x : Operand} {f fo : Nat} {a : Addr} (b : dB X.P S f = some fo)
    (u : ev σ x = .pointer (some a)) : VO X V σ ⟨d, .fieldAddr S x f, ty, pos, af, gd⟩ (.pointer (some (a.add fo))) := by
  intro w _
  unfold dB at b
  split at b
  · rename_i fs q
    split at b
    · rename_i j e
      split at b
      · rename_i i m
        split at b
        · cases b
        · rename_i g
          simp only [Option.some.injEq] at b
          subst b
          have h : (sizeOf j.type).run X.P w = .ok i.size w := eE (by simp [gb, m])
          simp [execOp, Instr.fieldAt, run_underlying q w, e, u, Instr.sureAddr, fieldPlace, Sem.run_bind, h, g]
      · cases b
    · cases b
  · cases b
theorem lG {w : World} {P : Program} {b k : Nat} {cs : List Value} {T : Nat} {v : Value} (a : w.heap[b]? = some (.cells cs.toArray T (0, 0))) (e : k < cs.length) (g : v.oneCell' = true) :
    (store ⟨b, k, none⟩ v).run P w = .ok () (w.setCell ⟨b, k, none⟩ v) := by
  rw [run_store P w _ v _ g]
  have : w.cell? ⟨b, k, none⟩ = some cs[k] := by rw [iB a, List.getElem?_eq_getElem e]
  simp [this, World.frozen?, a]
theorem fV {w : World} {b k : Nat} {c : Array Value} {T : Nat} {fr : Nat × Nat} {v : Value} (a : w.heap[b]? = some (.cells c T fr)) : (w.setCell ⟨b, k, none⟩ v).heap[b]? = some (.cells (c.setIfInBounds k v) T fr) := by
  simp only [World.setCell, Array.getElem?_modify, a]
  simp
theorem fS {w : World} {b k j : Nat} {v : Value} (h : j ≠ b) : (w.setCell ⟨b, k, none⟩ v).heap[j]? = w.heap[j]? := by
  simp only [World.setCell, Array.getElem?_modify]
  rw [if_neg (fun e => h e.symm)]
theorem i' {P : Program} {w : World} {T : TypeId} {a : Addr} {v : Value} {b : World} (i : gb P T = some 1) (j : v.oneCell' = true) (h : (store a v).run P w = .ok () b) : (storeVar T a v).run P w = .ok () b := by
  have g : v.cells = #[v] := by cases v <;> first | rfl | (simp [Value.oneCell'] at j)
  unfold storeVar
  rw [Sem.run_bind, eE i]
  have e : a.add 0 = a := by simp [Addr.add]
  simp [g, storeCells, Sem.run_bind, e, h]
theorem dP {T : TypeId} {x y : Operand} {b k : Nat} {cs : List Value} {q : Nat} {v : Value} (i : Nat) (J : dok X.n d = true) (hw : eA ops σ ⟨d, .store T x y, ty, pos, af, gd⟩ = true) (U : gb X.P T = some 1)
    (E : lk V i = aK b cs q) (hx : ev σ x = .pointer (some ⟨b, k, none⟩)) (hy : ev σ y = v) (G : v.oneCell' = true) (L : Nat.blt k cs.length = true)
    (h : TL X ops (qR V i (aK b (cs.set k v) q)) (fx σ d undef) rest Q) : TL X ops V σ (⟨d, .store T x y, ty, pos, af, gd⟩ :: rest) Q := by
  intro w s
  refine eW J hw ?_
  have F := iA s i E
  have u : k < cs.length := Nat.lt_of_lt_of_le (Nat.lt_succ_self _) (Nat.le_of_ble_eq_true L)
  have M : (execOp (ev σ) ⟨d, .store T x y, ty, pos, af, gd⟩).run X.P w = .ok .skip (w.setCell ⟨b, k, none⟩ v) := by
    simp only [execOp, Instr.storeAt, hx, hy, Instr.sureAddr, Sem.run_bind, Sem.run_pure, Result.andThen_ok, i' U G (lG F u G)]
  rw [M]
  refine h _ (St.turn s i (fun a => a.setCell _ _) ?_)
  intro I g p _ _
  rw [E] at p
  have p : g = Hp.one b (.cells cs.toArray q (0, 0)) := p
  subst p
  refine ⟨_, rfl, ?_, ?_, ?_⟩
  · intro j o e
    simp only [Hp.one] at e
    split at e
    · rename_i m
      subst m
      rw [← Option.some.inj e, fV F]
      simp
    · cases e
  · intro j m
    refine .inl ?_
    simp only [Hp.one] at *
    split at m
    · rename_i e; rw [if_pos e]; exact fun h => by cases h
    · exact absurd rfl m
  · intro j o m e
    simp only [Hp.one] at m
    split at m
    · cases m
    · rename_i D; rw [fS D]; exact e
theorem ko {P : Program} {b : Nat} {T : Nat} : ∀ (vs : List Value) (k j : Nat) (cs : List Value) (w : World), w.heap[b]? = some (.cells cs.toArray T (0, 0)) → k + j + vs.length ≤ cs.length → (∀ v ∈ vs, v.oneCell' = true) →
    ∃ a, (storeCells ⟨b, k, none⟩ vs j).run P w = .ok () a ∧ a.heap[b]? = some (.cells (cs.take (k + j) ++ vs ++ cs.drop (k + j + vs.length)).toArray T (0, 0)) ∧ (∀ i, i ≠ b → a.heap[i]? = w.heap[i]?) ∧ ∀ C, Same C w → Same C a := by
  intro vs
  induction vs with
  | nil =>
    intro k j cs w m _ _
    exact ⟨w, by simp [storeCells], by simpa using m, fun _ _ => rfl, fun _ h => h⟩
  | cons v vs ih =>
    intro k j cs w m G E
    have g : k + j < cs.length := by simp at G; omega
    have h1 := lG (P := P) m g (E v (by simp))
    have q : (w.setCell ⟨b, k + j, none⟩ v).heap[b]? = some (.cells (cs.set (k + j) v).toArray T (0, 0)) := by rw [fV m]; simp
    obtain ⟨a, r, e, o, J⟩ := ih k (j + 1) (cs.set (k + j) v) _ q (by simp at *; omega) (fun u I => E u (by simp [I]))
    refine ⟨a, ?_, ?_, fun i D => ?_, fun C F => J C (F.setCell _ _)⟩
    · simp only [storeCells, Sem.run_bind, fi, h1, Result.andThen_ok, r]
    · rw [e]
      congr 2
      rw [show k + (j + 1) = (k + j) + 1 by omega, List.take_succ_eq_append_getElem (by simp; exact g), List.take_set_of_le (Nat.le_refl _), List.drop_set_of_lt (by omega)]
      simp [Nat.add_assoc, Nat.add_comm, Nat.add_left_comm]
    · rw [o i D, fS D]
theorem aU {T : TypeId} {x y : Operand} {b k n : Nat} {cs vs : List Value} {u : Nat} (i : Nat) (L : dok X.n d = true) (hw : eA ops σ ⟨d, .store T x y, ty, pos, af, gd⟩ = true) (hs : gb X.P T = some n)
    (F : lk V i = aK b cs u) (hx : ev σ x = .pointer (some ⟨b, k, none⟩)) (hy : ev σ y = .agg vs.toArray) (G : vs.length = n) (hv : vs.all (·.oneCell') = true) (M : Nat.ble (k + n) cs.length = true)
    (h : TL X ops (qR V i (aK b (cs.take k ++ vs ++ cs.drop (k + n)) u)) (fx σ d undef) rest Q) : TL X ops V σ (⟨d, .store T x y, ty, pos, af, gd⟩ :: rest) Q := by
  intro w s
  refine eW L hw ?_
  have J := iA s i F
  obtain ⟨w', r, e, o, sm⟩ := ko (P := X.P) vs k 0 cs w J (by have := Nat.le_of_ble_eq_true M; omega) (fun v E => List.all_eq_true.1 hv v E)
  have U : (execOp (ev σ) ⟨d, .store T x y, ty, pos, af, gd⟩).run X.P w = .ok .skip w' := by
    simp [execOp, Instr.storeAt, hx, hy, Instr.sureAddr, storeVar, eE hs, Value.cells, G, r, Sem.run_bind]
  rw [U]
  refine h _ (St.turn s i (fun a => sm _ a) ?_)
  intro I g p _ _
  rw [F] at p
  have p : g = Hp.one b (.cells cs.toArray u (0, 0)) := p
  subst p
  refine ⟨_, rfl, ?_, ?_, ?_⟩
  · intro j o' q
    simp only [Hp.one] at q
    split at q
    · rename_i m
      subst m
      rw [← Option.some.inj q, e]
      simp [G]
    · cases q
  · intro j m
    refine .inl ?_
    simp only [Hp.one] at *
    split at m
    · rename_i e; rw [if_pos e]; exact fun h => by cases h
    · exact absurd rfl m
  · intro j o' m q
    simp only [Hp.one] at m
    split at m
    · cases m
    · rename_i D; rw [o j D]; exact q
end
end Go.Pg
namespace Go.Pg
theorem St.act {β : Type} {C w : World} {V : List HP} (s : St C w V) (i : Nat) {q : β → HP} {Ψ : β → World → Prop}
    (f : ∀ I h, (lk V i).p I h → Le I w → Le h w → (∀ k, I k = Option.none ∨ h k = Option.none) → ∃ b D E, Ψ b D ∧ (Same C w → Same C D) ∧ (q b).p I E ∧ Le E D ∧ (∀ k, E k ≠ Option.none → h k ≠ Option.none ∨ w.heap.size ≤ k) ∧ ∀ (k : Nat) (o : Obj), h k = Option.none → w.heap[k]? = some o → D.heap[k]? = some o) :
    ∃ b D, Ψ b D ∧ St C D (qR V i (q b)) := by
  obtain ⟨a, I, h, g, j, l, s⟩ := s
  obtain ⟨h1, h2, u, c, s'⟩ := eY i s
  obtain ⟨b, D, E, hΨ, hs, hq, hl, hn, T⟩ := f I h1 c (l.mono j.left) (l.mono (Hp.le_trans u.left j.right)) (fun k => by
    rcases j.disj k with e | e
    · exact .inl e
    · exact .inr ((u.is_none k).1 e).1)
  refine ⟨b, D, hΨ, ?_⟩
  have L : ∀ b, E b ≠ Option.none → I b = Option.none ∧ h2 b = Option.none := by
    intro b hb
    rcases hn b hb with e | e
    · refine ⟨?_, ?_⟩
      · rcases j.disj b with f | f
        · exact f
        · exact absurd ((u.is_none b).1 f).1 e
      · rcases u.disj b with f | f
        · exact absurd f e
        · exact f
    · have : g b = Option.none := by
        cases hg : g b with
        | none => rfl
        | some o =>
          have := (l.lt (b := b) (by rw [hg]; exact fun h => by cases h))
          omega
      have := (j.is_none b).1 this
      exact ⟨this.1, ((u.is_none b).1 this.2).2⟩
  obtain ⟨m, M⟩ := Join.of_disj (h1 := E) (h2 := h2) (fun b => by
    by_cases e : E b = Option.none
    · exact .inl e
    · exact .inr (L b e).2)
  obtain ⟨g', J⟩ := Join.of_disj (h1 := I) (h2 := m) (fun b => by
    by_cases e : E b = Option.none
    · rcases j.disj b with f | f
      · exact .inl f
      · exact .inr ((M.is_none b).2 ⟨e, ((u.is_none b).1 f).2⟩)
    · exact .inl (L b e).1)
  refine ⟨hs a, I, m, g', J, ?_, lA i M hq s'⟩
  intro b o e
  rcases J.cases e with ⟨F, U⟩ | ⟨F, U⟩
  · refine T b o ?_ (l b o (j.left b o F))
    rcases j.disj b with f | f
    · rw [f] at F; cases F
    · exact ((u.is_none b).1 f).1
  · rcases M.cases F with ⟨G, e4⟩ | ⟨G, e4⟩
    · exact hl b o G
    · refine T b o ?_ (l b o (j.right b o (u.right b o G)))
      rcases u.disj b with f | f
      · exact f
      · rw [f] at G; cases G
theorem St.see {C w : World} {V : List HP} (s : St C w V) (i : Nat) : ∃ I h J, (lk V i).p I h ∧ Hp.le I J ∧ Hp.le h J ∧ Le J w := by
  obtain ⟨I, h, p, g, m, a⟩ := s.look i
  obtain ⟨J, j⟩ := Join.of_disj a
  refine ⟨I, h, J, p, j.left, j.right, fun b o e => ?_⟩
  rcases j.cases e with ⟨e, _⟩ | ⟨e, _⟩
  · exact g b o e
  · exact m b o e
def gC {α : Type} (q : HP) (K : Kind α) (v : Value) (xs : List α) : Prop := ∀ I h J, Hp.le I J → Hp.le h J → q.p I h → o0 K J v xs
section
variable {α : Type} {K : Kind α}
theorem aE {v : Value} {xs : List α} : gC (aQ K v xs) K v xs := fun I h J l _ p => jP l p.2
theorem aH {e : Nat} {v : Value} {xs : List α} : gC (ow K e v xs) K v xs := fun I h J l m p => iy l m p
theorem St.reads {C w : World} {V : List HP} (s : St C w V) {i : Nat} {v : Value} {xs : List α} (h : gC (lk V i) K v xs) : ∃ J, Le J w ∧ o0 K J v xs := by
  obtain ⟨I, g, J, p, a, b, lw⟩ := s.see i
  exact ⟨J, lw, h I g J a b p⟩
end
def sep (p q : HP) : HP := ⟨fun I h => ∃ h1 h2, Join h1 h2 h ∧ p.p I h1 ∧ q.p I h2, fun l ⟨h1, h2, j, a, b⟩ => ⟨h1, h2, j, p.mono l a, q.mono l b⟩⟩
theorem St.sep {C w : World} {p q : HP} {V : List HP} (s : St C w (p :: q :: V)) : St C w (Pg.sep p q :: V) := by
  obtain ⟨a, I, h, g, j, l, h1, h2, m, c, b, i, u, d, e⟩ := s
  obtain ⟨k, D, E⟩ := Join.assoc' u m
  exact ⟨a, I, h, g, j, l, k, i, E, ⟨h1, b, D, c, d⟩, e⟩
section
variable {X : Cx} {V : List HP} {σ : cY} {Q : Exit → cY → World → Prop} {ops : Array Oper} {rest : List Oper}
variable {d : Option Nat} {ty : TypeId} {pos : String} {af : Array Edge} {gd : Option (Nat × Bool)}
variable {α β : Type}
theorem bR {t : TypeId} {x : Operand} {a : Option Addr} {n c : Nat} {e : TypeId} (b : km X.P t = some e) (h : ev σ x = .slice a n c) : VO X V σ ⟨d, .call ⟨.builtin .len, #[x], #[t]⟩, ty, pos, af, gd⟩ (.int .i64 n) := by
  intro w _
  have g := gp b
  simp [execOp, resolve, invoke, builtin, h, Builtin.len_, run_underlying g, goInt]
theorem bY {K : Kind α} {a : Option Addr} {n c : Nat} {xs : List α} (i : Nat) (m : gC (lk V i) K (.slice a n c) xs) (h1 : 0 < n) (h : ∀ g o, a = some ⟨g, o, none⟩ → TL X ops V σ rest Q) : TL X ops V σ rest Q := by
  intro w s
  obtain ⟨J, lw, A, u, b, h2, D, e⟩ := s.reads m
  have E : n = xs.length := by injection b
  have q : a = A := by injection b
  obtain ⟨g, o, j, _⟩ := e (by omega)
  exact h g o (by rw [q, j]) w s
theorem bZ {K : Kind α} {a : Option Addr} {n c : Nat} {xs : List α} {cd : Code} (i : Nat) (m : gC (lk V i) K (.slice a n c) xs) (h1 : 0 < n) (h : ∀ g o, a = some ⟨g, o, none⟩ → TC X V σ cd Q) : TC X V σ cd Q := by
  intro w s
  obtain ⟨J, lw, A, u, b, h2, D, e⟩ := s.reads m
  have E : n = xs.length := by injection b
  have q : a = A := by injection b
  obtain ⟨g, o, j, _⟩ := e (by omega)
  exact h g o (by rw [q, j]) w s
theorem qW {t e : TypeId} {x y : Operand} {g o n c sz : Nat} {k : IntKind} {j : Int} (h : km X.P t = some e) (b : gb X.P e = some sz) (m : ev σ x = .slice (some ⟨g, o, none⟩) n c) (q : ev σ y = .int k j) (a : 0 ≤ j) (h1 : j < n) :
    VO X V σ ⟨d, .indexAddr t x y, ty, pos, af, gd⟩ (.pointer (some ⟨g, o + j.toNat * sz, none⟩)) := by
  intro w _
  have i := gp h
  simp [execOp, m, q, Instr.indexAt, asIntOf, run_underlying i, a, h1, eE b, fi]
def uY (K : Kind α) (fo : Nat) (pr : α → Value) : Prop := ∀ I x cs, K.rd I x cs → oF cs fo = some (pr x)
def uZ (K : Kind α) (fo : Nat) (L : Kind β) (pr : α → List β) : Prop := ∀ I x cs, K.rd I x cs → ∃ v, oF cs fo = some v ∧ o0 L I v (pr x)
theorem gZ {K : Kind α} {J : Hp} {g o n c : Nat} {xs : List α} (r : o0 K J (.slice (some ⟨g, o, none⟩) n c) xs) {j : Nat} {x : α} (a : xs[j]? = some x) :
    ∃ cs, K.rd J x cs ∧ ∀ k u, cs[k]? = some u → fQ J g (o + j * K.sz + k) = some u := by
  obtain ⟨A, E, D, h2, F, b⟩ := r
  have i := (List.getElem?_eq_some_iff.1 a).1
  obtain ⟨g', o', e, h⟩ := b (by omega)
  injection D with e1 e2 e3
  rw [e] at e1
  injection e1 with e1
  injection e1 with e1 e4
  subst e1; subst e4
  obtain ⟨cs, p, q⟩ := h j x a
  exact ⟨cs, p, fun k u m => q k u m⟩
theorem gi [Inhabited α] {K : Kind α} {T : TypeId} {x : Operand} {g o n c fo : Nat} {xs : List α} {pr : α → Value} (i : Nat) (j : Int) (h : fy X.P T = some false)
    (m : uY K fo pr) (e : gC (lk V i) K (.slice (some ⟨g, o, none⟩) n c) xs) (D : ev σ x = .pointer (some ⟨g, o + j.toNat * K.sz + fo, none⟩)) (b : 0 ≤ j) (h1 : j < n) :
    VO X V σ ⟨d, .load T x, ty, pos, af, gd⟩ (pr (ix xs j)) := by
  intro w s
  obtain ⟨J, lw, r⟩ := s.reads e
  have F : n = xs.length := by obtain ⟨A, E, u, _⟩ := r; injection u
  obtain ⟨cs, p, q⟩ := gZ r (gK b (by omega))
  have a := gg lw (q fo _ (by rw [← iY]; exact m J _ cs p))
  simp only [execOp, Instr.loadAt, D, Instr.sureAddr, Sem.run_bind, Sem.run_pure, Result.andThen_ok, fe h a]
theorem oG [Inhabited α] {K : Kind α} {cells : α → List Value} {T : TypeId} {x : Operand} {g o n c : Nat} {xs : List α} (i : Nat) (j : Int) (D : fy X.P T = some true) (F : gb X.P T = some K.sz)
    (E : ∀ I x cs, K.rd I x cs → cs = cells x) (m : gC (lk V i) K (.slice (some ⟨g, o, none⟩) n c) xs) (M : ev σ x = .pointer (some ⟨g, o + j.toNat * K.sz, none⟩)) (h : 0 ≤ j) (h1 : j < n) :
    VO X V σ ⟨d, .load T x, ty, pos, af, gd⟩ (.agg (cells (ix xs j)).toArray) := by
  intro w s
  obtain ⟨J, lw, r⟩ := s.reads m
  have hn : n = xs.length := by obtain ⟨A, U, L, _⟩ := r; injection L
  obtain ⟨cs, p, q⟩ := gZ r (gK h (by omega))
  have e := K.rd_len p
  obtain rfl := E _ _ _ p
  have b := ff (P := X.P) (w := w) (a := ⟨g, o + j.toNat * K.sz, none⟩) D (by rw [e]; exact F) (fun k u G => by rw [fi]; exact gg lw (q k u G))
  simp only [execOp, Instr.loadAt, M, Instr.sureAddr, Sem.run_bind, Sem.run_pure, Result.andThen_ok, b]
def cl (g k : Nat) (cs : List Value) : HP := ⟨fun I h => h = Hp.none ∧ ∀ i u, cs[i]? = some u → fQ I g (k + i) = some u, fun l p => ⟨p.1, fun i u a => ia l (p.2 i u a)⟩⟩
theorem ne {C w : World} {V : List HP} (s : St C w V) (i : Nat) {g k : Nat} {cs : List Value} (a : lk V i = cl g k cs) : ∀ (j : Nat) (u : Value), cs[j]? = some u → w.cell? ⟨g, k + j, none⟩ = some u := by
  obtain ⟨I, h, p, lI, _, _⟩ := s.look i
  rw [a] at p
  exact fun j u b => gg lI (p.2 j u b)
theorem lH {L : Kind β} {I : Hp} {v : Value} {ys : List β} (r : o0 L I v ys) : ∃ a c, v = .slice a ys.length c := by
  obtain ⟨A, c, e, _⟩ := r
  exact ⟨A, c, e⟩
theorem St.more {C w : World} {V : List HP} (s : St C w V) (i : Nat) {A : Type} {E : A → List HP} (f : ∀ I h, (lk V i).p I h → Le I w → Le h w → ∃ a, eT (E a) I Hp.none) : ∃ a, St C w (E a ++ V) := by
  obtain ⟨q, I, b, j, g, lw, st⟩ := s
  obtain ⟨h1, h2, m, p, u⟩ := eY i st
  obtain ⟨a, e⟩ := f I h1 p (lw.mono g.left) (lw.mono (Hp.le_trans m.left g.right))
  exact ⟨a, q, I, b, j, g, lw, cS.2 ⟨Hp.none, b, Join.none b, e, st⟩⟩
theorem oH {p q : HP} {I : Hp} (a : p.p I Hp.none) (b : q.p I Hp.none) : eT [p, q] I Hp.none := ⟨_, _, Join.none _, a, _, _, Join.none _, b, rfl⟩
theorem St.leaf [Inhabited α] {C w : World} {V : List HP} {K : Kind α} {L : Kind β} {g o n c fo : Nat} {xs : List α} {pr : α → List β} (s : St C w V) (i : Nat) (j : Int)
    (J : uZ K fo L pr) (G : lk V i = aQ K (.slice (some ⟨g, o, none⟩) n c) xs) (F : 0 ≤ j) (h1 : j < n) :
    ∃ p : Option Addr × Nat, St C w ([cl g (o + j.toNat * K.sz + fo) [.slice p.1 (pr (ix xs j)).length p.2], aQ L (.slice p.1 (pr (ix xs j)).length p.2) (pr (ix xs j))] ++ V) := by
  refine St.more (E := fun p : Option Addr × Nat => [cl g (o + j.toNat * K.sz + fo) [.slice p.1 (pr (ix xs j)).length p.2], aQ L (.slice p.1 (pr (ix xs j)).length p.2) (pr (ix xs j))]) s i ?_
  intro I h p _ _
  rw [G] at p
  obtain ⟨_, r⟩ := p
  have M : n = xs.length := by obtain ⟨A, m, e, _⟩ := r; injection e
  obtain ⟨cs, p, q⟩ := gZ r (gK F (by omega))
  obtain ⟨v, e, D⟩ := J I _ cs p
  obtain ⟨a, m, rfl⟩ := lH D
  exact ⟨⟨a, m⟩, oH ⟨rfl, fun k u b => by
    cases k with
    | zero =>
      simp only [List.getElem?_cons_zero, Option.some.injEq] at b
      subst b
      exact q fo _ (by rw [← iY]; exact e)
    | succ k => simp at b⟩ ⟨rfl, D⟩⟩
def wG (K : Kind α) {A : Type} (cells : A → α → List Value) (b : A → α → List HP) : Prop := ∀ I x cs, K.rd I x cs → ∃ a, cs = cells a x ∧ eT (b a x) I Hp.none
theorem St.elem [Inhabited α] {C w : World} {V : List HP} {K : Kind α} {A : Type} {cells : A → α → List Value} {b : A → α → List HP} {g o n c : Nat} {xs : List α} (s : St C w V) (i : Nat) (j : Int)
    (D : wG K cells b) (u : lk V i = aQ K (.slice (some ⟨g, o, none⟩) n c) xs) (m : 0 ≤ j) (h1 : j < n) :
    ∃ a, St C w ((cl g (o + j.toNat * K.sz) (cells a (ix xs j)) :: b a (ix xs j)) ++ V) := by
  refine St.more (E := fun a => cl g (o + j.toNat * K.sz) (cells a (ix xs j)) :: b a (ix xs j)) s i ?_
  intro I h p _ _
  rw [u] at p
  obtain ⟨_, r⟩ := p
  have J : n = xs.length := by obtain ⟨A, G, F, _⟩ := r; injection F
  obtain ⟨cs, p, q⟩ := gZ r (gK m (by omega))
  obtain ⟨a, rfl, e⟩ := D I _ cs p
  exact ⟨a, _, _, Join.none _, ⟨rfl, q⟩, e⟩
theorem ib [Inhabited α] {K : Kind α} {A : Type} {cells : A → α → List Value} {b : A → α → List HP} {g o n c : Nat} {xs : List α} (i : Nat) (j : Int)
    (q : wG K cells b) (m : lk V i = aQ K (.slice (some ⟨g, o, none⟩) n c) xs) (e : 0 ≤ j) (h1 : j < n)
    (h : ∀ a, TL X ops (cl g (o + j.toNat * K.sz) (cells a (ix xs j)) :: (b a (ix xs j) ++ V)) σ rest Q) : TL X ops V σ rest Q := by
  intro w s
  obtain ⟨a, s'⟩ := s.elem i j q m e h1
  exact h a w s'
theorem j0 [Inhabited α] {K : Kind α} {A : Type} {cells : A → α → List Value} {b : A → α → List HP} {g o n c : Nat} {xs : List α} {cd : Code} (i : Nat) (j : Int)
    (q : wG K cells b) (m : lk V i = aQ K (.slice (some ⟨g, o, none⟩) n c) xs) (e : 0 ≤ j) (h1 : j < n)
    (h : ∀ a, TC X (cl g (o + j.toNat * K.sz) (cells a (ix xs j)) :: (b a (ix xs j) ++ V)) σ cd Q) : TC X V σ cd Q := by
  intro w s
  obtain ⟨a, s'⟩ := s.elem i j q m e h1
  exact h a w s'
end
end Go.Pg
namespace Go.Pg
section
variable {X : Cx} {V : List HP} {σ : cY} {Q : Exit → cY → World → Prop} {ops : Array Oper} {rest : List Oper}
variable {d : Option Nat} {ty : TypeId} {pos : String} {af : Array Edge} {gd : Option (Nat × Bool)}
variable {α β : Type}
def SetL (K : Kind α) (fo : Nat) (v : Value) (f : α → α) : Prop := fo < K.sz ∧ ∀ I h x cs, K.own I h x cs → K.own I h (f x) (cs.set fo v)
theorem kp {P : Program} {w : World} {g k : Nat} {cs : List Value} {e : Nat} {fr : Nat × Nat} {v : Value} (b : w.heap[g]? = some (.cells cs.toArray e fr)) (h : k < cs.length) (a : fr = (0, 0) ∨ cs.length ≤ fr.1) (i : v.oneCell' = true) :
    (store ⟨g, k, none⟩ v).run P w = .ok () (w.setCell ⟨g, k, none⟩ v) := by
  rw [run_store P w _ v _ i]
  have h1 : w.cell? ⟨g, k, none⟩ = some cs[k] := by simp [World.cell?, b, h]
  have h2 : w.frozen? ⟨g, k, none⟩ = false := by
    simp only [World.frozen?, b]
    rcases a with rfl | a
    · simp
    · obtain ⟨lo, j⟩ := fr
      simp only at a
      simp; omega
  simp [h1, h2]
def lK (P : Program) (K : Kind α) (e : TypeId) (z : α) : Prop := ∃ cs, jQ P e = some cs ∧ cs.length = K.sz ∧ ∀ I, K.own I Hp.none z cs
theorem oI {K : Kind α} {I : Hp} {z : α} {cs : List Value} (h : K.own I Hp.none z cs) (m : Nat) : fB K I Hp.none (List.replicate m z) (List.replicate m cs).flatten := by
  induction m with
  | zero => exact ⟨rfl, rfl⟩
  | succ m ih => exact ⟨Hp.none, Hp.none, cs, (List.replicate m cs).flatten, Join.none _, by simp [List.replicate_succ], h, ih⟩
theorem ku (z : Array Value) (e : 0 < z.size) (m : Nat) : (madeCells z (m * z.size)).toList = (List.replicate m z.toList).flatten := by
  induction m with
  | zero => simp [madeCells]
  | succ m ih =>
    have h1 : (madeCells z ((m + 1) * z.size)).toList = (madeCells z (m * z.size)).toList ++ z.toList := by
      apply List.ext_getElem?
      intro k
      simp only [madeCells, Array.toList_map, Array.toList_range, List.getElem?_map, List.getElem?_append, List.length_map, List.length_range]
      by_cases hk : k < m * z.size
      · rw [List.getElem?_range (by rw [Nat.succ_mul]; omega), if_pos hk, List.getElem?_range hk]
      · rw [if_neg hk]
        by_cases hk2 : k < (m + 1) * z.size
        · rw [List.getElem?_range hk2]
          have a : k - m * z.size < z.size := by rw [Nat.succ_mul] at hk2; omega
          have b : k % z.size = k - m * z.size := by
            rw [← Nat.mod_eq_of_lt a]
            conv => lhs; rw [show k = (k - m * z.size) + m * z.size by omega]
            rw [Nat.add_mul_mod_self_right]
          simp only [Option.map_some, b]
          rw [getElem!_pos z _ a]
          simp [a]
        · rw [List.getElem?_eq_none (by simp; omega)]
          rw [Nat.succ_mul] at hk2
          rw [List.getElem?_eq_none (by simp; omega)]
          rfl
    rw [h1, ih]
    clear h1 ih
    induction m with
    | zero => simp
    | succ m ih => rw [List.replicate_succ, List.flatten_cons, List.append_assoc, ih, ← List.flatten_cons, ← List.replicate_succ]
theorem fG {K : Kind α} {t e : TypeId} {x y : Operand} {m : Int} {z : α} {D : Nat} (hd : dok X.n d = true) (hw : eA ops σ ⟨d, .makeSlice t x y, ty, pos, af, gd⟩ = true) (ht : km X.P t = some e) (u : gb X.P e = some K.sz) (E : fR X.P e = some D)
    (hz : lK X.P K e z) (a0 : 0 < K.sz) (hx : ev σ x = .int .i64 m) (hy : ev σ y = .int .i64 m) (h0 : 0 ≤ m) (h1 : m ≤ 140737488355328) (h2 : D * m ≤ 281474976710656)
    (h : ∀ a c, TL X ops (ow K e (.slice a (List.replicate m.toNat z).length c) (List.replicate m.toNat z) :: V) (fx σ d (.slice a (List.replicate m.toNat z).length c)) rest Q) : TL X ops V σ (⟨d, .makeSlice t x y, ty, pos, af, gd⟩ :: rest) Q := by
  intro w s
  obtain ⟨cs, g, J, L⟩ := hz
  unfold jQ at g
  unfold gb at u
  unfold fR at E
  cases hi : X.P.info? e with
  | none => rw [hi] at u; cases u
  | some info =>
    rw [hi] at g u E
    simp only [Option.map_some, Option.some.injEq, Option.bind_some] at g u E
    cases hzz : info.zero with
    | none => rw [hzz] at g; cases g
    | some zv =>
      rw [hzz] at g
      simp only [Option.map_some, Option.some.injEq] at g
      have hr := run_make (P := X.P) w t e info zv (gp ht) hi hzz .i64 .i64 m m h0 (Int.le_refl _) (by rw [E]; exact h2) (by omega)
      refine eW hd hw ?_
      have G : (execOp (ev σ) ⟨d, .makeSlice t x y, ty, pos, af, gd⟩).run X.P w = .ok (.value (.slice (some ⟨w.heap.size, 0, none⟩) m.toNat m.toNat)) (w.alloc (.cells (madeCells zv.cells (m.toNat * info.size)) e)) := by
        simp only [execOp, hx, hy, Sem.run_bind, hr, Result.andThen_ok, Sem.run_pure]
      rw [G]
      have M : zv.cells.size = K.sz := by rw [← J, ← g]; simp
      have q : (madeCells zv.cells (m.toNat * info.size)).toList = (List.replicate m.toNat cs).flatten := by
        rw [u, ← M, ku _ (by omega), ← g]
      have hl : (List.replicate m.toNat z).length = m.toNat := by simp
      have := h (some ⟨w.heap.size, 0, none⟩) m.toNat
      rw [hl] at this
      refine this _ (St.new s (fun a => a.alloc _) (fun I _ => ?_) ?_)
      · obtain ⟨h', U⟩ := Join.of_disj (h1 := Hp.one w.heap.size (.cells (madeCells zv.cells (m.toNat * info.size)) e)) (h2 := Hp.none) (fun _ => .inr rfl)
        have T := U.symm.eq_of_none
        refine ⟨h', .inr ⟨w.heap.size, m.toNat, [], (List.replicate m.toNat cs).flatten, [], (0, 0), Hp.none, by simp, by simp, by simp only [maxLen]; omega, by simp, .inl rfl, ?_, oI (L I) _⟩, ?_, ?_⟩
        · have hh : ((List.replicate m.toNat cs).flatten).toArray = madeCells zv.cells (m.toNat * info.size) := by rw [← q]
          simp only [List.nil_append, List.append_nil, hh]
          exact U
        · rw [T]
          intro b o j
          simp only [Hp.one] at j
          split at j
          · rename_i i
            subst i
            rw [← Option.some.inj j]
            show (w.heap.push _)[w.heap.size]? = _
            simp
          · cases j
        · rw [T]
          intro b i
          simp only [Hp.one] at i
          split at i
          · rename_i j; exact Nat.le_of_eq j.symm
          · exact absurd rfl i
      · intro b o j
        have F := (Array.getElem?_eq_some_iff.1 j).1
        show (w.heap.push _)[b]? = _
        rw [Array.getElem?_push, if_neg (Nat.ne_of_lt F)]
        exact j
end
end Go.Pg
namespace Go.Pg
theorem gL {P : Program} {b : Nat} {T : Nat} {fr : Nat × Nat} {N : Nat} (I : fr = (0, 0) ∨ N ≤ fr.1) : ∀ (vs : List Value) (k j : Nat) (cs : List Value) (w : World), cs.length = N → w.heap[b]? = some (.cells cs.toArray T fr) → k + j + vs.length ≤ cs.length → (∀ v ∈ vs, v.oneCell' = true) →
    ∃ a, (storeCells ⟨b, k, none⟩ vs j).run P w = .ok () a ∧ a.heap[b]? = some (.cells (cs.take (k + j) ++ vs ++ cs.drop (k + j + vs.length)).toArray T fr) ∧ (∀ i, i ≠ b → a.heap[i]? = w.heap[i]?) ∧ ∀ C, Same C w → Same C a := by
  intro vs
  induction vs with
  | nil =>
    intro k j cs w _ m _ _
    exact ⟨w, by simp [storeCells], by simpa using m, fun _ _ => rfl, fun _ h => h⟩
  | cons v vs ih =>
    intro k j cs w D m J F
    have g : k + j < cs.length := by simp at J; omega
    have h1 := kp (P := P) m g (by rw [D]; exact I) (F v (by simp))
    have q : (w.setCell ⟨b, k + j, none⟩ v).heap[b]? = some (.cells (cs.set (k + j) v).toArray T fr) := by rw [fV m]; simp
    obtain ⟨a, r, e, o, M⟩ := ih k (j + 1) (cs.set (k + j) v) _ (by simpa using D) q (by simp at *; omega) (fun u L => F u (by simp [L]))
    refine ⟨a, ?_, ?_, fun i E => ?_, fun C G => M C (G.setCell _ _)⟩
    · simp only [storeCells, Sem.run_bind, fi, h1, Result.andThen_ok, r]
    · rw [e]
      congr 2
      rw [show k + (j + 1) = (k + j) + 1 by omega, List.take_succ_eq_append_getElem (by simp; exact g), List.take_set_of_le (Nat.le_refl _), List.drop_set_of_lt (by omega)]
      simp [Nat.add_assoc, Nat.add_comm, Nat.add_left_comm]
    · rw [o i E, fS E]
def wH {α : Type} (q : HP) (K : Kind α) (x : Value) (ys : List α) : Prop :=
  ∀ I h, q.p I h → ∃ A c a b, x = .slice A ys.length c ∧ ys.length ≤ maxLen ∧ Hp.le b h ∧ fB K I b ys a ∧
    (∀ J, Hp.le I J → Hp.le h J → 0 < ys.length → ∃ g o, A = some ⟨g, o, none⟩ ∧ ∀ k u, a[k]? = some u → fQ J g (o + k) = some u)
theorem eM {α : Type} {K : Kind α} {e : Nat} {v : Value} {ys : List α} : wH (ow K e v ys) K v ys := by
  intro I h p
  have p : nb K e I h v ys := p
  rcases p with ⟨A, rfl, rfl, rfl⟩ | ⟨g, c, pre, b, a, fr, E, rfl, h2, D, L, M, q, G⟩
  · exact ⟨A, 0, [], Hp.none, rfl, Nat.zero_le _, Hp.le_refl _, ⟨rfl, rfl⟩, fun _ _ _ h => absurd h (Nat.lt_irrefl _)⟩
  · refine ⟨_, c, b, E, rfl, Nat.le_trans h2 D, q.right, G, fun J _ F _ => ⟨g, pre.length, rfl, fun k u m => ?_⟩⟩
    have i : J g = some (.cells (pre ++ b ++ a).toArray e fr) := F _ _ (q.left g _ (by simp [Hp.one]))
    unfold fQ
    rw [i]
    have j := (List.getElem?_eq_some_iff.1 m).1
    show (pre ++ b ++ a).toArray[pre.length + k]? = some u
    rw [List.getElem?_toArray, List.append_assoc, List.getElem?_append_right (by omega), Nat.add_sub_cancel_left, List.getElem?_append_left j]
    exact m
theorem ms {α : Type} {K : Kind α} (m : K.Flat) {J : Hp} {g o : Nat} : ∀ (ys : List α) (b : Nat), (∀ j x, ys[j]? = some x → ∃ cs, K.rd J x cs ∧ ∀ i u, cs[i]? = some u → fQ J g (o + (b + j) * K.sz + i) = some u) →
    ∃ a, fB K J Hp.none ys a ∧ ∀ k u, a[k]? = some u → fQ J g (o + b * K.sz + k) = some u := by
  intro ys
  induction ys with
  | nil => intro b _; exact ⟨[], ⟨rfl, rfl⟩, fun k u e => by simp at e⟩
  | cons y ys ih =>
    intro b h
    obtain ⟨cs, h1, h2⟩ := h 0 y rfl
    obtain ⟨a, o1, o2⟩ := ih (b + 1) (fun j x D => by
      obtain ⟨cs, p, q⟩ := h (j + 1) x (by simpa using D)
      exact ⟨cs, p, fun i u e => by rw [show b + 1 + j = b + (j + 1) by omega]; exact q i u e⟩)
    refine ⟨cs ++ a, ⟨Hp.none, Hp.none, cs, a, Join.none _, rfl, m _ _ _ h1, o1⟩, fun k u e => ?_⟩
    have E := K.rd_len h1
    by_cases hk : k < cs.length
    · rw [List.getElem?_append_left hk] at e
      simpa using h2 k u e
    · rw [List.getElem?_append_right (by omega)] at e
      have := o2 _ u e
      rw [Nat.succ_mul] at this
      rw [show o + b * K.sz + k = o + (b * K.sz + K.sz) + (k - cs.length) by omega]
      exact this
theorem oJ {α : Type} {K : Kind α} (G : K.Flat) {v : Value} {ys : List α} : wH (aQ K v ys) K v ys := by
  rintro I h ⟨rfl, A, c, m, h2, e, D⟩
  by_cases hp : 0 < ys.length
  · obtain ⟨g, o, E, F⟩ := D hp
    obtain ⟨a, o1, o2⟩ := ms G ys 0 (fun j x L => by
      obtain ⟨cs, p, q⟩ := F j x L
      exact ⟨cs, p, fun i u b => by rw [show 0 + j = j from Nat.zero_add j]; exact q i u b⟩)
    refine ⟨A, c, a, Hp.none, m, e, Hp.le_refl _, o1, fun J l _ _ => ⟨g, o, E, fun k u b => ia l ?_⟩⟩
    simpa using o2 k u b
  · obtain rfl : ys = [] := List.eq_nil_of_length_eq_zero (by omega)
    exact ⟨A, c, [], Hp.none, m, e, Hp.le_refl _, ⟨rfl, rfl⟩, fun _ _ _ h => absurd h hp⟩
theorem Le.one_new {w a : World} {o : Obj} (h : a.heap[w.heap.size]? = some o) : Le (Hp.one w.heap.size o) a := by
  intro b o' e
  simp only [Hp.one] at e
  split at e
  · rename_i g; subst g; rw [← Option.some.inj e]; exact h
  · cases e
theorem qX {α : Type} {P : Program} {K : Kind α} {t ty e : TypeId} {ah : Nat} {w : World} {s x : Value} {xs ys : List α} {z : α} (ht : km P t = some e) (hs : gb P e = some K.sz) (hb : fR P e = some ah) (hz : lK P K e z) (b0 : 0 < K.sz)
    {I h1 h2 M : Hp} {q : HP} (hj : Join h1 h2 M) (ho : nb K e I h1 s xs) (hq : q.p I h2) (ao : wH q K x ys) (lI : Le I w) (a3 : Le M w) (dj : ∀ b, I b = Option.none ∨ M b = Option.none) (hl : (xs.length + ys.length) * ah ≤ 140737488355328) (ax : xs.length + ys.length ≤ 140737488355328) (aw : 0 < ah) :
    ∃ a c w' h', (Builtin.append_ #[t, t] ty #[s, x]).run P w = .ok (.slice a (xs ++ ys).length c) w' ∧ (∀ C, Same C w → Same C w') ∧ nb K e I h' (.slice a (xs ++ ys).length c) (xs ++ ys) ∧ Le h' w' ∧
      (∀ k, h' k ≠ Option.none → M k ≠ Option.none ∨ w.heap.size ≤ k) ∧ ∀ (k : Nat) (o : Obj), M k = Option.none → w.heap[k]? = some o → w'.heap[k]? = some o := by
  obtain ⟨A, cx, i, a8, rfl, hm, aa, on, aj⟩ := ao I h2 hq
  have an := jN on
  obtain ⟨J, jJ⟩ := Join.of_disj dj
  have lJ : Le J w := fun b o e => by
    rcases jJ.cases e with ⟨e, _⟩ | ⟨e, _⟩
    · exact lI b o e
    · exact a3 b o e
  have au := aj J jJ.left (Hp.le_trans hj.right jJ.right)
  obtain ⟨zc, a1, av, b1⟩ := hz
  have hu := gp ht
  unfold jQ at a1
  unfold gb at hs
  unfold fR at hb
  cases hi : P.info? e with
  | none => rw [hi] at hs; cases hs
  | some info =>
  rw [hi] at a1 hs hb
  simp only [Option.map_some, Option.some.injEq, Option.bind_some] at a1 hs hb
  cases hzz : info.zero with
  | none => rw [hzz] at a1; cases a1
  | some zv =>
  have D : (xs ++ ys).length = xs.length + ys.length := List.length_append
  rcases Nat.eq_zero_or_pos ys.length with h0 | a0
  · -- nothing comes
    obtain rfl : ys = [] := List.eq_nil_of_length_eq_zero h0
    have ay : i = [] := on.2
    have e0 : a8 = Hp.none := on.1
    rcases ho with ⟨B, rfl, rfl, rfl⟩ | ⟨g, c, pre, u, m, fr, ac, rfl, p2, p3, p4, p5, jo, ol⟩
    · refine ⟨B, 0, w, Hp.none, ?_, fun _ h => h, .inl ⟨B, rfl, rfl, rfl⟩, fun _ _ e => (by cases e), fun _ h => absurd rfl h, fun _ _ _ h => h⟩
      cases B <;> cases A with
      | none => simp [Builtin.append_, run_underlying hu, sizeOf, typeInfo, hi, Builtin.lenOf, Builtin.firstCells, loadCells, loadCellsFrom, storeCells]
      | some a => simp [Builtin.append_, run_underlying hu, sizeOf, typeInfo, hi, Builtin.lenOf, Builtin.firstCells, loadCells, loadCellsFrom, storeCells]
    · refine ⟨some ⟨g, pre.length, none⟩, c, w, h1, ?_, fun _ h => h, .inr ⟨g, c, pre, u, m, fr, ac, by simp, by simpa using p2, p3, by simpa using p4, p5, jo, by simpa using ol⟩, ?_, ?_, fun _ _ _ h => h⟩
      · cases A with
        | none => simp [Builtin.append_, run_underlying hu, sizeOf, typeInfo, hi, Builtin.lenOf, Builtin.firstCells, loadCells, loadCellsFrom, p2, storeCells]
        | some a => simp [Builtin.append_, run_underlying hu, sizeOf, typeInfo, hi, Builtin.lenOf, Builtin.firstCells, loadCells, loadCellsFrom, p2, storeCells]
      · exact a3.mono hj.left
      · exact fun k hk => .inl fun hn => hk ((hj.is_none k).1 hn).1
  · obtain ⟨g2, o2, rfl, ae⟩ := au a0
    have U : ∀ (j : Nat) (v : Value), i[j]? = some v → w.cell? ((⟨g2, o2, none⟩ : Addr).add j) = some v := fun j v hv => by
      rw [fi]
      exact gg lJ (ae j v hv)
    have a4 : i.length = ys.length * info.size := by rw [an, hs]
    have a2 : ∀ (L : Nat) (G : List Value) (a7 : Hp), L < xs.length + ys.length → Hp.le a7 h1 → fB K I a7 xs G →
        ∃ h', nb K e I h' (.slice (some ⟨w.heap.size, 0, none⟩) (xs ++ ys).length (grownCap w (xs.length + ys.length) L e)) (xs ++ ys) ∧
          Le h' (w.drew.alloc (.cells (G.toArray ++ i.toArray ++ Builtin.zeroCells zv.cells (grownCap w (xs.length + ys.length) L e - (xs.length + ys.length))) e)) ∧
          (∀ k, h' k ≠ Option.none → M k ≠ Option.none ∨ w.heap.size ≤ k) := by
      intro L G a7 a6 aq ol
      obtain ⟨F, ju⟩ := Join.of_disj (h1 := a7) (h2 := a8) (fun b => by
        rcases hj.disj b with f | f
        · refine .inl ?_
          cases hh : a7 b with
          | none => rfl
          | some o => rw [aq b o hh] at f; cases f
        · refine .inr ?_
          cases hh : a8 b with
          | none => rfl
          | some o => rw [aa b o hh] at f; cases f)
      have E : Hp.le F M := fun b o e => by
        rcases ju.cases e with ⟨e, _⟩ | ⟨e, _⟩
        · exact hj.left b o (aq b o e)
        · exact hj.right b o (aa b o e)
      obtain ⟨h', jo⟩ := Join.of_disj (h1 := Hp.one w.heap.size (.cells (G.toArray ++ i.toArray ++ Builtin.zeroCells zv.cells (grownCap w (xs.length + ys.length) L e - (xs.length + ys.length))) e)) (h2 := F) (fun b => by
        by_cases a5 : b = w.heap.size
        · refine .inr ?_
          cases hh : F b with
          | none => rfl
          | some o =>
            have := a3.lt (b := b) (by rw [E b o hh]; exact fun h => by cases h)
            omega
        · exact .inl (by simp [Hp.one, a5]))
      have al := grownCap_ge w (xs.length + ys.length) L e
      have ar := grownCap_le_maxLen w (xs.length + ys.length) L e (by simp only [maxLen]; omega)
      refine ⟨h', .inr ⟨w.heap.size, _, [], G ++ i, (Builtin.zeroCells zv.cells (grownCap w (xs.length + ys.length) L e - (xs.length + ys.length))).toList, (0, 0), F, rfl, by rw [D]; exact al, ar, ?_, .inl rfl, ?_, jO ju ol on⟩, ?_, ?_⟩
      · rw [D]
        have : zv.cells.size = K.sz := by
          rw [hzz] at a1
          simp only [Option.map_some, Option.some.injEq] at a1
          rw [← av, ← a1]; simp
        simp [size_zeroCells, this]
      · have : ([] ++ (G ++ i) ++ (Builtin.zeroCells zv.cells (grownCap w (xs.length + ys.length) L e - (xs.length + ys.length))).toList).toArray = G.toArray ++ i.toArray ++ Builtin.zeroCells zv.cells (grownCap w (xs.length + ys.length) L e - (xs.length + ys.length)) := by
          apply Array.ext'
          simp
        rw [this]
        exact jo
      · intro b o e
        rcases jo.cases e with ⟨e, _⟩ | ⟨e, _⟩
        · exact Le.one_new (w := w) (by show (w.heap.push _)[w.heap.size]? = _; simp) b o e
        · have a6 := a3.lt (b := b) (by rw [E b o e]; exact fun h => by cases h)
          show (w.heap.push _)[b]? = _
          rw [Array.getElem?_push, if_neg (Nat.ne_of_lt a6)]
          exact a3 b o (E b o e)
      · intro k hk
        by_cases hkk : k = w.heap.size
        · exact .inr (Nat.le_of_eq hkk.symm)
        · refine .inl fun hn => hk ((jo.is_none k).2 ⟨by simp [Hp.one, hkk], ?_⟩)
          cases hh : F k with
          | none => rfl
          | some o => rw [E k o hh] at hn; cases hn
    have a9 : ∀ (O : Obj) (k : Nat) (o : Obj), M k = Option.none → w.heap[k]? = some o → (w.drew.alloc O).heap[k]? = some o := by
      intro O k o _ e
      have a6 := (Array.getElem?_eq_some_iff.1 e).1
      show (w.heap.push _)[k]? = _
      rw [Array.getElem?_push, if_neg (Nat.ne_of_lt a6)]
      exact e
    have ab : ∀ (O : Obj) (C : World), Same C w → Same C (w.drew.alloc O) := fun O C h => h.drew.alloc O
    rcases ho with ⟨B, rfl, rfl, rfl⟩ | ⟨g, c, pre, u, m, fr, ac, rfl, p2, p3, p4, p5, jo, ol⟩
    · cases B with
      | some b =>
        have hr := run_append_grow (P := P) w t ty e info zv hu hi hzz b 0 0 [] (by simp) (fun j v hv => by simp at hv) ⟨g2, o2, none⟩ ys.length cx i a4 U (by omega) (by omega) (by rw [hb, Nat.zero_add]; exact growslice_fits a0 (by simpa using hl))
        obtain ⟨h', f1, f2, f3⟩ := a2 0 [] Hp.none (by simp; exact a0) (Hp.le_refl _) ⟨rfl, rfl⟩
        simp only [List.length_nil, Nat.zero_add, List.nil_append] at f1 f2 hr ⊢
        exact ⟨_, _, _, h', hr, ab _, f1, f2, f3, a9 _⟩
      | none =>
      have hr := run_append_nil (P := P) w t ty e info zv hu hi hzz ⟨g2, o2, none⟩ ys.length cx i a4 U a0 (by omega) (by rw [hb]; simp only [List.length_nil, Nat.zero_add] at hl; omega)
      obtain ⟨h', f1, f2, f3⟩ := a2 0 [] Hp.none (by simp; exact a0) (Hp.le_refl _) ⟨rfl, rfl⟩
      simp only [List.length_nil, Nat.zero_add, List.nil_append] at f1 f2 hr ⊢
      refine ⟨_, _, _, h', hr, ab _, f1, ?_, f3, a9 _⟩
      rw [show ([] : List Value).toArray ++ i.toArray = i.toArray by simp] at f2
      exact f2
    · have ag : w.heap[g]? = some (.cells (pre ++ u ++ m).toArray e fr) := a3 g _ (hj.left g _ (jo.left g _ (by simp [Hp.one])))
      have ap := jN ol
      by_cases hroom : xs.length + ys.length ≤ c
      · -- in place
        have az : ys.length * K.sz ≤ m.length := by rw [p4]; exact Nat.mul_le_mul_right _ (by omega)
        obtain ⟨w', r, e', ot, sm⟩ := gL (P := P) (N := (pre ++ u ++ m).length) (T := e) (fr := fr) (b := g) (by simpa [Nat.add_assoc] using p5) i (pre.length + xs.length * K.sz) 0 (pre ++ u ++ m) w rfl ag (by simp only [List.length_append]; omega) (oD on)
        obtain ⟨F, ju⟩ := Join.of_disj (h1 := ac) (h2 := a8) (fun b => by
          rcases hj.disj b with f | f
          · exact .inl ((jo.is_none b).1 f).2
          · refine .inr ?_
            cases hh : a8 b with
            | none => rfl
            | some o => rw [aa b o hh] at f; cases f)
        have E : ∀ b o, F b = some o → M b = some o ∧ b ≠ g := fun b o e => by
          rcases ju.cases e with ⟨e, _⟩ | ⟨e, _⟩
          · refine ⟨hj.left b o (jo.right b o e), ?_⟩
            rintro rfl
            rcases jo.disj b with f | f
            · simp [Hp.one] at f
            · rw [f] at e; cases e
          · refine ⟨hj.right b o (aa b o e), ?_⟩
            rintro rfl
            rcases hj.disj b with f | f
            · have := ((jo.is_none b).1 f).1
              simp [Hp.one] at this
            · rw [aa b o e] at f; cases f
        obtain ⟨h', jn⟩ := Join.of_disj (h1 := Hp.one g (.cells (pre ++ (u ++ i) ++ m.drop i.length).toArray e fr)) (h2 := F) (fun b => by
          by_cases a5 : b = g
          · refine .inr ?_
            cases hh : F b with
            | none => rfl
            | some o => exact absurd a5 (E b o hh).2
          · exact .inl (by simp [Hp.one, a5]))
        have am : (pre ++ u ++ m).take (pre.length + xs.length * K.sz + 0) ++ i ++ (pre ++ u ++ m).drop (pre.length + xs.length * K.sz + 0 + i.length) = pre ++ (u ++ i) ++ m.drop i.length := by
          have h1 : pre.length + xs.length * K.sz + 0 = (pre ++ u).length := by simp [ap]
          rw [h1, List.take_left, List.drop_append, List.drop_of_length_le (by omega), Nat.add_sub_cancel_left]
          simp [List.append_assoc]
        rw [am] at e'
        refine ⟨some ⟨g, pre.length, none⟩, c, w', h', ?_, sm, .inr ⟨g, c, pre, u ++ i, m.drop i.length, fr, F, rfl, by rw [D]; exact hroom, p3, ?_, ?_, jn, jO ju ol on⟩, ?_, ?_, ?_⟩
        · have hf := run_firstCells_some (P := P) w info.size ys.length ⟨g2, o2, none⟩ ys.length cx i a4 U
          rw [hs] at hf
          simp [Builtin.append_, run_underlying hu, sizeOf, typeInfo, hi, Builtin.lenOf, hroom, hf, fi, hs, r, Sem.run_bind]
        · rw [List.length_drop, p4, an, ← Nat.sub_mul, D]
          congr 1
          omega
        · rcases p5 with p5 | p5
          · exact .inl p5
          · refine .inr ?_
            simp only [List.length_append, List.length_drop]
            omega
        · intro b o e
          rcases jn.cases e with ⟨e1, _⟩ | ⟨e1, _⟩
          · simp only [Hp.one] at e1
            split at e1
            · rename_i a5; subst a5; rw [← Option.some.inj e1]; exact e'
            · cases e1
          · obtain ⟨q1, q2⟩ := E b o e1
            rw [ot b q2]
            exact a3 b o q1
        · intro k hk
          refine .inl fun hn => hk ((jn.is_none k).2 ⟨?_, ?_⟩)
          · have := ((jo.is_none k).1 ((hj.is_none k).1 hn).1).1
            simp only [Hp.one] at *
            split at this
            · cases this
            · rename_i ai; rw [if_neg ai]
          · cases hh : F k with
            | none => rfl
            | some o => rw [(E k o hh).1] at hn; cases hn
        · intro k o hk e
          have ai : k ≠ g := by
            rintro rfl
            have := ((jo.is_none k).1 ((hj.is_none k).1 hk).1).1
            simp [Hp.one] at this
          rw [ot k ai]
          exact e
      · have ak : ∀ (j : Nat) (v : Value), u[j]? = some v → w.cell? ((⟨g, pre.length, none⟩ : Addr).add j) = some v := fun j v hv => by
          have a6 := (List.getElem?_eq_some_iff.1 hv).1
          rw [fi]
          simp only [World.cell?, ag, Option.isSome_none, Bool.false_eq_true, if_false, List.getElem?_toArray]
          rw [List.append_assoc, List.getElem?_append_right (by omega), Nat.add_sub_cancel_left, List.getElem?_append_left a6]
          exact hv
        have hr := run_append_grow (P := P) w t ty e info zv hu hi hzz ⟨g, pre.length, none⟩ xs.length c u (by rw [ap, hs]) ak ⟨g2, o2, none⟩ ys.length cx i a4 U (by omega) (by omega) (by rw [hb]; exact growslice_fits (by omega) hl)
        obtain ⟨h', f1, f2, f3⟩ := a2 c u ac (by omega) jo.right ol
        rw [← D] at hr
        rw [D] at hr f1
        refine ⟨_, _, _, h', by rw [D]; exact hr, ab _, by rw [D]; exact f1, f2, f3, a9 _⟩
end Go.Pg
