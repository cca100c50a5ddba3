import Derived.Test.YtbdchgofcejiiaaPg18
set_option linter.unusedVariables false
set_option linter.unusedSimpArgs false
namespace Go.Pg
def pf (φ : Prop) : HP := ⟨fun _ h => h = Hp.none ∧ φ, fun _ e => e⟩
section
variable {C w : World} {V : List HP}
theorem St.pfi (s : St C w V) {φ : Prop} (h : φ) : St C w (pf φ :: V) :=
  St.new s id (fun I _ => ⟨Hp.none, ⟨rfl, h⟩, fun _ _ e => (by cases e), fun _ h => absurd rfl h⟩) (fun _ _ h => h)
theorem St.pfo {φ : Prop} (s : St C w V) (i : Nat) (hV : lk V i = pf φ) : φ := by
  obtain ⟨I, hh, p, _⟩ := s.look i
  rw [hV] at p
  exact p.2
end
section
variable {X : Cx} {V : List HP} {σ : Env} {Q : Exit → Env → World → Prop} {ops : Array Oper} {rest : List Oper} {o : Oper} {cd : Code} {ex : Exit}
variable {d : Option Nat} {ty : TypeId} {pos : String} {af : Array Edge} {gd : Option (Nat × Bool)}
variable {α : Type}
theorem v_pfn {a : Option Addr} {b' : Bool} (i : Nat) (hV : lk V i = pf (a.isNone = b')) (h : VO X V σ o (.bool a.isSome)) : VO X V σ o (.bool (!b')) := by
  intro w s
  have e := s.pfo i hV
  rw [h w s, ← e]
  cases a <;> rfl
end
end Go.Pg
