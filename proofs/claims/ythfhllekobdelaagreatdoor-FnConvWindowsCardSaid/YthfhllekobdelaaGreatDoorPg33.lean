import Derived.Test.YthfhllekobdelaaGreatDoorPg22
set_option linter.unusedVariables false
namespace Go.Pg
class HSl (P : Program) (t : TypeId) (e : outParam TypeId) : Prop where
  h : km P t = some e
class HSz (P : Program) (t : TypeId) (z : outParam Nat) : Prop where
  h : gb P t = some z
class HAg (P : Program) (t : TypeId) (b : outParam Bool) : Prop where
  h : fy P t = some b
class HFo (P : Program) (S : TypeId) (f : Nat) (o : outParam Nat) : Prop where
  h : dB P S f = some o
abbrev s3 (h : HH) : Value := .slice h.1 h.2.1 h.2.2
section
variable {P : Program} {N : Nn} {C : World} {X : Cx} {V V0 : List HP} {σ : cY} {Q : Exit → cY → World → Prop} {ops : Array Oper} {rest : List Oper} {o : Oper} {k fuel : Nat} {listed : Array Bool}
variable {d : Nat} {d' : Option Nat} {op : Op} {ty : TypeId} {pos : String} {af : Array Edge} {gd : Option (Nat × Bool)} {v : Value} {x y : Code}
variable {z : Operand}
theorem tE (n : Nat) (is : List Nat) (h : mC n is = true := by exact rfl) (a : uR n V = true := by exact rfl) : ∀ w, St C w V → St C w (is.map (lk V) ++ dp n V) := fun _ s => s.sel n is h a
end
end Go.Pg
