import Derived.Test.YthfhllekobdelaaGreatDoorPg22
import Derived.Scope
set_option linter.unusedVariables false
namespace Go.Pg
def kN (Q : Exit → cY → World → Prop) : Exit → cY → World → Prop
  | .goto _, _, _ => False
  | e, σ, w => Q e σ w
theorem ri {P : Program} {n : Nn} {Q : Exit → cY → World → Prop} {σ : cY} {w : World} {l : Nat} (h : Q .normal σ w) : W P n (.label l) Q σ w := fun a h1 h2 b => wp_label (.inl ⟨h1, h2, b ▸ h⟩)
theorem rj {P : Program} {n : Nn} {Q : Exit → cY → World → Prop} {σ : cY} {w : World} {c : Code} (h : W P n c (kN Q) σ w) : W P n (.scope c) Q σ w := by
  intro a h1 h2 b
  refine wp_scope_straight (wp_mono (h a h1 h2 b) ?_)
  rintro e a' i q
  cases e with
  | goto l =>
    obtain ⟨_, _, g⟩ := eZ q (by simp)
    exact g.elim
  | _ => exact q
section
variable {X : Cx} {V : List HP} {σ : cY} {Q : Exit → cY → World → Prop} {x : Code} {id l : Nat}
theorem rk (h : TQ X V σ .normal Q) : TC X V σ (.label l) Q := fun w s => ri (h w s)
theorem rl (h : TC X V σ x (kN Q)) : TC X V σ (.scope x) Q := fun w s => rj (h w s)
theorem p9 (h : TQ X V σ .ret Q) : TQ X V σ .ret (kN Q) := fun w s => h w s
end
end Go.Pg
