import Derived.Test.YthfhllekobdelaaGreatDoorPg33
set_option linter.unusedVariables false
namespace Go.Pg
def mE (P : Program) (S : TypeId) (f : Nat) : Option (Nat × Nat) := match P.underlying S with
  | some (.struct fs) => (fs[f]?).map fun a => (a.type, a.offset)
  | _ => none
section
variable {X : Cx} {V : List HP} {σ : cY} {d : Option Nat} {ty : TypeId} {pos : String} {af : Array Edge} {gd : Option (Nat × Bool)}
theorem si {S : TypeId} {x : Operand} {f t fo : Nat} {cs : List Value} {v : Value} (a : mE X.P S f = some (t, fo)) (e : fy X.P t = some false) (h : ev σ x = .agg cs.toArray) (b : oF cs fo = some v) : VO X V σ ⟨d, .field S x f, ty, pos, af, gd⟩ v := by
  intro w _
  unfold mE at a
  split at a
  · rename_i fs g
    rw [iY] at b
    cases hfl : fs[f]? with
    | none => rw [hfl] at a; cases a
    | some fl =>
      rw [hfl] at a
      simp only [Option.map_some, Option.some.injEq, Prod.mk.injEq] at a
      obtain ⟨rfl, rfl⟩ := a
      have h1 := iZ (P := X.P) (w := w) e
      simp [execOp, Instr.field, run_underlying g w, hfl, h, asAgg, part, Sem.run_bind, h1, b]
  · cases a
end
end Go.Pg
