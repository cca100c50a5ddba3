import Derived.Test.YtbdchgofcejiiaaPg9
set_option linter.unusedVariables false
set_option linter.unusedSimpArgs false
namespace Go.Pg
section
variable {X : Cx} {V : List HP} {σ : Env} {Q : Exit → Env → World → Prop} {ops : Array Oper} {rest : List Oper}
variable {d : Option Nat} {ty : TypeId} {pos : String} {af : Array Edge} {gd : Option (Nat × Bool)}
variable {α β : Type}
def bound (σ : Env) (o : Option Operand) (other l : Int) : Prop := match o with
  | some x => ev σ x = .int .i64 l
  | none => l = other
theorem run_sbound {P : Program} {w : World} {l : Int} {y : Nat} {code : BoundsCode} (h0 : 0 ≤ l) (h1 : l ≤ y) : (Instr.sliceBound (.int .i64 l) y code).run P w = .ok l.toNat w := by
  simp [Instr.sliceBound, asIntOf, h0, h1]
def cutA (a : Option Addr) (c l sz : Nat) : Option Addr := if c = l then a else a.map (·.add (l * sz))
theorem v_rem {t yt : TypeId} {x y : Operand} {k : IntKind} {a b : Int} (hx : ev σ x = .int k a) (hy : ev σ y = .int k b) (hb : b ≠ 0) : VO X V σ ⟨d, .binOp .rem t x y yt, ty, pos, af, gd⟩ (.int k (a.tmod b)) := by
  intro w _
  simp [execOp, hx, hy, eqGuard_at_int, binOp, Op.intDiv, hb]
theorem v_max {x y : Operand} {ts : Array TypeId} {k k' : IntKind} {a b : Int} (hx : ev σ x = .int k a) (hy : ev σ y = .int k' b) : VO X V σ ⟨d, .call ⟨.builtin .max, #[x, y], ts⟩, ty, pos, af, gd⟩ (.int k (if b > a then b else a)) := by
  intro w _
  simp [execOp, resolve, invoke, builtin, hx, hy, run_max_int2]
theorem v_min {x y : Operand} {ts : Array TypeId} {k k' : IntKind} {a b : Int} (hx : ev σ x = .int k a) (hy : ev σ y = .int k' b) : VO X V σ ⟨d, .call ⟨.builtin .min, #[x, y], ts⟩, ty, pos, af, gd⟩ (.int k (if b < a then b else a)) := by
  intro w _
  simp [execOp, resolve, invoke, builtin, hx, hy, run_min_int2]
theorem v_bne {t yt : TypeId} {x y : Operand} {a b : Bool} (ht : X.P.underlying t = some .bool) (hx : ev σ x = .bool a) (hy : ev σ y = .bool b) : VO X V σ ⟨d, .binOp .neq t x y yt, ty, pos, af, gd⟩ (.bool (!(a == b))) := by
  intro w _
  simp [execOp, hx, hy, eqGuard_at_bool, run_neq_bool (P := X.P) w t a b ht]
end
end Go.Pg
