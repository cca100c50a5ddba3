import Derived.Test.YthfhllekobdelaaGreatDoorPg9
import Derived.Lib.AppendZerosOnto
import Derived.Lib.Overlaps
import Derived.Laws.Externs
import Derived.Laws.BytesArg
import Derived.WideLaws
import Derived.RangeFuncRecord
set_option linter.unusedVariables false
set_option linter.unusedSimpArgs false
namespace Go.Pg
abbrev sc {α : Type} (a : Option Addr) (xs : List α) (c : Nat) : Value := .slice a xs.length c
abbrev il {α : Type} (xs : List α) : Value := .int .i64 xs.length
abbrev HH : Type := Option Addr × Nat × Nat
theorem R {α : Sort _} {a : α} : a = a := rfl
theorem so {α : Type _} {a b : α} (h : some a = some b) : a = b := Option.some.inj h
theorem bo (b : Bool) : b = true ∨ b = false := Bool.eq_false_or_eq_true b
theorem oT {c a : Bool} (h : c = true) : (c || a) = true := by rw [h]; rfl
theorem aF {c a : Bool} (h : c = false) : (c && a) = false := by rw [h]; rfl
def up : Nat → Nat → List Nat
  | _, 0 => []
  | a, n + 1 => a :: up (a + 1) n
def rg : List Nat → List Nat
  | a :: n :: t => up a n ++ rg t
  | _ => []
theorem St.d {α : Type} {K : Kind α} {C w : World} {V : List HP} {v : Value} {xs : List α} (s : St C w V) (i : Nat) (a : lk V i = aQ K v xs) : St C w (aQ K v xs :: V) := s.dup i a
theorem St.e {C w : World} {V : List HP} (s : St C w V) (n : Nat) (is : List Nat) (h : mC n is = true := by exact rfl) (a : uR n V = true := by exact rfl) : St C w (is.map (lk V) ++ dp n V) := s.sel n is h a
theorem St.f {C w : World} {V : List HP} (s : St C w V) (n : Nat) (is : List Nat) (h : mC n (rg is) = true := by exact rfl) (a : uR n V = true := by exact rfl) : St C w ((rg is).map (lk V) ++ dp n V) := s.sel n (rg is) h a
theorem aS {σ : cY} : ∀ {l : List (Nat × Value)}, l.map (fun p => σ p.1) = l.map Prod.snd → jh σ l
  | [], _ => trivial
  | (_, _) :: _, h => ⟨(List.cons.inj h).1, aS (List.cons.inj h).2⟩
section
variable {X : Cx} {V V0 : List HP} {σ : cY} {Q : Exit → cY → World → Prop} {ops : Array Oper} {rest : List Oper} {o : Oper} {k fuel : Nat} {listed : Array Bool} {C : World}
variable {d : Nat} {d' : Option Nat} {op : Op} {ty : TypeId} {pos : String} {af : Array Edge} {gd : Option (Nat × Bool)} {v : Value}
theorem vz (v : Value) (h : VO X V σ o v) : VO X V σ o v := h
theorem vp (v : Value) (h : pv σ op = some v) : VO X V σ ⟨d', op, ty, pos, af, gd⟩ v := gJ h
theorem vI {i : IntKind} {n : Int} (h : pv σ op = some (.int i n)) : VO X V σ ⟨d', op, ty, pos, af, gd⟩ (.int i n) := gJ h
theorem vB {n : Bool} (h : pv σ op = some (.bool n)) : VO X V σ ⟨d', op, ty, pos, af, gd⟩ (.bool n) := gJ h
theorem vS {a : Option Addr} {n c : Nat} (h : pv σ op = some (.slice a n c)) : VO X V σ ⟨d', op, ty, pos, af, gd⟩ (.slice a n c) := gJ h
theorem vP {b n : Nat} (h : pv σ op = some (.pointer (some ⟨b, n, none⟩))) : VO X V σ ⟨d', op, ty, pos, af, gd⟩ (.pointer (some ⟨b, n, none⟩)) := gJ h
theorem vA {l : List Value} (h : pv σ op = some (.agg l.toArray)) : VO X V σ ⟨d', op, ty, pos, af, gd⟩ (.agg l.toArray) := gJ h
theorem vT {l : List Value} (h : pv σ op = some (.tuple l.toArray)) : VO X V σ ⟨d', op, ty, pos, af, gd⟩ (.tuple l.toArray) := gJ h
theorem kK {x y : Operand} {t g : TypeId} {b : BinOp} {m n : Int} (a : ev σ x = .int .i64 m) (e : ev σ y = .int .i64 n) (h : kH .i64 b m n = some v) : VO X V σ ⟨d', .binOp b t x y g, ty, pos, af, gd⟩ v := gJ (by simp only [pv, a, e]; exact h)
theorem cX {x y : Operand} {t e : TypeId} {m n : Int} (a : ev σ x = .int .i64 m) (b : ev σ y = .int .i64 n) : VO X V σ ⟨d', .binOp .add t x y e, ty, pos, af, gd⟩ (.int .i64 (aG (m + n))) := kK a b rfl
theorem hM {x y : Operand} {t e : TypeId} {m n : Int} (a : ev σ x = .int .i64 m) (b : ev σ y = .int .i64 n) : VO X V σ ⟨d', .binOp .sub t x y e, ty, pos, af, gd⟩ (.int .i64 (aG (m - n))) := kK a b rfl
theorem f9 {x y : Operand} {t e : TypeId} {m n : Int} (a : ev σ x = .int .i64 m) (b : ev σ y = .int .i64 n) : VO X V σ ⟨d', .binOp .mul t x y e, ty, pos, af, gd⟩ (.int .i64 (aG (m * n))) := kK a b rfl
theorem dQ {x y : Operand} {t e : TypeId} {m n : Int} (a : ev σ x = .int .i64 m) (b : ev σ y = .int .i64 n) : VO X V σ ⟨d', .binOp .lss t x y e, ty, pos, af, gd⟩ (.bool (decide (m < n))) := kK a b rfl
theorem sh {x y : Operand} {t e : TypeId} {m n : Int} (a : ev σ x = .int .i64 m) (b : ev σ y = .int .i64 n) : VO X V σ ⟨d', .binOp .leq t x y e, ty, pos, af, gd⟩ (.bool (decide (m ≤ n))) := kK a b rfl
theorem iw {x y : Operand} {t e : TypeId} {m n : Int} (a : ev σ x = .int .i64 m) (b : ev σ y = .int .i64 n) : VO X V σ ⟨d', .binOp .gtr t x y e, ty, pos, af, gd⟩ (.bool (decide (m > n))) := kK a b rfl
theorem jW {x y : Operand} {t e : TypeId} {m n : Int} (a : ev σ x = .int .i64 m) (b : ev σ y = .int .i64 n) : VO X V σ ⟨d', .binOp .geq t x y e, ty, pos, af, gd⟩ (.bool (decide (m ≥ n))) := kK a b rfl
theorem ji {x y : Operand} {t e : TypeId} {m n : Int} (a : ev σ x = .int .i64 m) (b : ev σ y = .int .i64 n) : VO X V σ ⟨d', .binOp .eql t x y e, ty, pos, af, gd⟩ (.bool (m == n)) := kK a b rfl
theorem ig {x y : Operand} {t e : TypeId} {m n : Int} (a : ev σ x = .int .i64 m) (b : ev σ y = .int .i64 n) : VO X V σ ⟨d', .binOp .neq t x y e, ty, pos, af, gd⟩ (.bool (m != n)) := kK a b rfl
theorem ft {x : Operand} {t : TypeId} {b : Bool} (a : ev σ x = .bool b) : VO X V σ ⟨d', .unOp .not t x, ty, pos, af, gd⟩ (.bool !b) := gJ (by simp only [pv, a])
theorem bT (a : Nat) {S : TypeId} {x : Operand} {f fo b k : Nat} (g : dB X.P S f = some fo) (h : ev σ x = .pointer (some ⟨b, k, none⟩)) (e : k + fo = a := by exact rfl) : VO X V σ ⟨d', .fieldAddr S x f, ty, pos, af, gd⟩ (.pointer (some ⟨b, a, none⟩)) := vd g h e
theorem bV {T : TypeId} {x : Operand} {b k : Nat} {cs : List Value} {a : Nat} {v : Value} (i : Nat) (g : fy X.P T = some false) (e : lk V i = aK b cs a) (j : ev σ x = .pointer (some ⟨b, k, none⟩)) (h : oF cs k = some v) : VO X V σ ⟨d', .load T x, ty, pos, af, gd⟩ v := te i g e j h
theorem cK {t e : TypeId} {x y : Operand} {g o n c sz : Nat} {k : IntKind} {j : Int} (b : km X.P t = some e) (a : gb X.P e = some sz) (i : ev σ x = .slice (some ⟨g, o, none⟩) n c) (m : ev σ y = .int k j) (h : 0 ≤ j ∧ j < n) : VO X V σ ⟨d', .indexAddr t x y, ty, pos, af, gd⟩ (.pointer (some ⟨g, o + j.toNat * sz, none⟩)) := qW b a i m h.1 h.2
theorem dL {T : TypeId} {x : Operand} {g o n c : Nat} {xs : List Int} {j : Int} (i : Nat) (b : fy X.P T = some false) (a : gC (lk V i) (Kind.int .i64) (.slice (some ⟨g, o, none⟩) n c) xs) (e : ev σ x = .pointer (some ⟨g, o + j.toNat * 1, none⟩)) (h : 0 ≤ j ∧ j < n) : VO X V σ ⟨d', .load T x, ty, pos, af, gd⟩ (.int .i64 (ix xs j)) :=
  gi (K := Kind.int .i64) (fo := 0) (pr := fun x => .int .i64 x) i j b ((DecK.scal _ _).leaf fun _ _ => rfl) a e h.1 h.2
theorem eS {c b : Bool} {x y z : Operand} (a : ev σ x = .bool c) (h : c = false) (e : ev σ z = .bool b) : VO X V σ ⟨d', .pick x y z, ty, pos, af, gd⟩ (.bool (c || b)) := ni a h e (vb (by rw [h]; rfl))
theorem cW {c : Bool} {x y z : Operand} (b : Bool) (a : ev σ x = .bool c) (h : c = true) (e : ev σ y = .bool true := by exact rfl) : VO X V σ ⟨d', .pick x y z, ty, pos, af, gd⟩ (.bool (c || b)) := nh a h e (vb (by rw [h]; rfl))
theorem kx {c b : Bool} {x y z : Operand} (a : ev σ x = .bool c) (h : c = true) (e : ev σ y = .bool b) : VO X V σ ⟨d', .pick x y z, ty, pos, af, gd⟩ (.bool (c && b)) := nh a h e (vb (by rw [h]; rfl))
theorem kn {c : Bool} {x y z : Operand} (b : Bool) (a : ev σ x = .bool c) (h : c = false) (e : ev σ z = .bool false := by exact rfl) : VO X V σ ⟨d', .pick x y z, ty, pos, af, gd⟩ (.bool (c && b)) := ni a h e (vb (by rw [h]; rfl))
theorem eB {j : Nat} {c : Bool} (e : c = true) (h : o.guard = some (j, true) := by exact rfl) (a : kF ops σ j = some c := by exact rfl) : eA ops σ o = true := nc h a e
theorem bI {j : Nat} {c : Bool} (e : c = false) (h : o.guard = some (j, false) := by exact rfl) (a : kF ops σ j = some c := by exact rfl) : eA ops σ o = true := nc h a e
theorem aT {j : Nat} {c : Bool} (e : c = true) (h : o.guard = some (j, false) := by exact rfl) (a : kF ops σ j = some c := by exact rfl) : eA ops σ o = false := lF h a e
theorem dV {j : Nat} {c : Bool} (e : c = false) (h : o.guard = some (j, true) := by exact rfl) (a : kF ops σ j = some c := by exact rfl) : eA ops σ o = false := lF h a e
theorem lO (b : VO X V σ ⟨some d, op, ty, pos, af, gd⟩ v) (h : TL X ops V (iW σ d v) rest Q) (hw : eA ops σ ⟨some d, op, ty, pos, af, gd⟩ = true := by exact rfl) (a : dok X.n (some d) = true := by exact rfl) : TL X ops V σ (⟨some d, op, ty, pos, af, gd⟩ :: rest) Q := oQ v b hw a h
theorem lW (hw : eA ops σ ⟨some d, op, ty, pos, af, gd⟩ = true) (b : VO X V σ ⟨some d, op, ty, pos, af, gd⟩ v) (h : TL X ops V (iW σ d v) rest Q) (a : dok X.n (some d) = true := by exact rfl) : TL X ops V σ (⟨some d, op, ty, pos, af, gd⟩ :: rest) Q := oQ v b hw a h
theorem lI {i : IntKind} {n : Int} (b : pv σ op = some (.int i n)) (h : TL X ops V (iW σ d (.int i n)) rest Q) (hw : eA ops σ ⟨some d, op, ty, pos, af, gd⟩ = true := by exact rfl) (a : dok X.n (some d) = true := by exact rfl) : TL X ops V σ (⟨some d, op, ty, pos, af, gd⟩ :: rest) Q := oQ _ (gJ b) hw a h
theorem lB {n : Bool} (b : pv σ op = some (.bool n)) (h : TL X ops V (iW σ d (.bool n)) rest Q) (hw : eA ops σ ⟨some d, op, ty, pos, af, gd⟩ = true := by exact rfl) (a : dok X.n (some d) = true := by exact rfl) : TL X ops V σ (⟨some d, op, ty, pos, af, gd⟩ :: rest) Q := oQ _ (gJ b) hw a h
theorem lS {a : Option Addr} {n c : Nat} (e : pv σ op = some (.slice a n c)) (h : TL X ops V (iW σ d (.slice a n c)) rest Q) (hw : eA ops σ ⟨some d, op, ty, pos, af, gd⟩ = true := by exact rfl) (b : dok X.n (some d) = true := by exact rfl) : TL X ops V σ (⟨some d, op, ty, pos, af, gd⟩ :: rest) Q := oQ _ (gJ e) hw b h
theorem lP {b n : Nat} (e : pv σ op = some (.pointer (some ⟨b, n, none⟩))) (h : TL X ops V (iW σ d (.pointer (some ⟨b, n, none⟩))) rest Q) (hw : eA ops σ ⟨some d, op, ty, pos, af, gd⟩ = true := by exact rfl) (a : dok X.n (some d) = true := by exact rfl) : TL X ops V σ (⟨some d, op, ty, pos, af, gd⟩ :: rest) Q := oQ _ (gJ e) hw a h
theorem dR (i : Nat) (g : ops[i]? = some ⟨some d, op, ty, pos, af, gd⟩) (q : VO X V0 σ ⟨some d, op, ty, pos, af, gd⟩ v) (h : TD X ops k V0 fuel (listed.setIfInBounds i true) V (iW σ d v) Q) (hw : eA ops σ ⟨some d, op, ty, pos, af, gd⟩ = true := by exact rfl) (b : dok X.n (some d) = true := by exact rfl)
    (a : Nat.blt i k = true := by exact rfl) (m : gj ops k = true := by assumption) (j : Region.noSelect ops = true := by assumption) (e : (Region.free .any ops listed i && (Region.ready .any ops listed).contains i) = true := by kernel_rfl) (hS : ∀ w, St X.C w V → St X.C w V0 := by exact sL []) : TD X ops k V0 (fuel + 1) listed V σ Q :=
  xT i v g q hw b a m j e hS h
theorem dW (i : Nat) (g : ops[i]? = some ⟨some d, op, ty, pos, af, gd⟩) (hw : eA ops σ ⟨some d, op, ty, pos, af, gd⟩ = true) (q : VO X V0 σ ⟨some d, op, ty, pos, af, gd⟩ v) (h : TD X ops k V0 fuel (listed.setIfInBounds i true) V (iW σ d v) Q) (b : dok X.n (some d) = true := by exact rfl)
    (a : Nat.blt i k = true := by exact rfl) (m : gj ops k = true := by assumption) (j : Region.noSelect ops = true := by assumption) (e : (Region.free .any ops listed i && (Region.ready .any ops listed).contains i) = true := by kernel_rfl) (hS : ∀ w, St X.C w V → St X.C w V0 := by exact sL []) : TD X ops k V0 (fuel + 1) listed V σ Q :=
  xT i v g q hw b a m j e hS h
theorem dF (i : Nat) (g : ops[i]? = some ⟨some d, op, ty, pos, af, gd⟩) (hw : eA ops σ ⟨some d, op, ty, pos, af, gd⟩ = false) (h : TD X ops k V0 fuel (listed.setIfInBounds i true) V (iW σ d undef) Q) (b : dok X.n (some d) = true := by exact rfl)
    (a : Nat.blt i k = true := by exact rfl) (m : gj ops k = true := by assumption) (j : Region.noSelect ops = true := by assumption) (e : (Region.free .any ops listed i && (Region.ready .any ops listed).contains i) = true := by kernel_rfl) (hS : ∀ w, St X.C w V → St X.C w V0 := by exact sL []) : TD X ops k V0 (fuel + 1) listed V σ Q :=
  va i g hw b a m j e hS h
theorem qF {A : Type} {a : A → Value × List HP} {fn : Func} {t : Nat} {e : Exit} (x : A) (h : ∀ w, St X.C w V → St X.C w ((a x).2 ++ V0)) (b : (e = .ret ∨ e = .normal) := by first | exact .inl rfl | exact .inr rfl) (g : fn.results = #[.tmp t] := by exact rfl) (i : σ t = (a x).1 := by exact rfl) :
    TQ X V σ e (mm X.P fn (sg X V0 a)) := bU (rs := [.tmp t]) (vs := [(a x).1]) b x g ⟨i, trivial⟩ rfl h
theorem lN (V : List HP) (h : TL X ops V σ rest Q) : TL X ops V σ rest Q := h
theorem cN {cd : Code} (V : List HP) (h : TC X V σ cd Q) : TC X V σ cd Q := h
theorem qN {e : Exit} (V : List HP) (h : TQ X V σ e Q) : TQ X V σ e Q := h
theorem lM (V' : List HP) (f : ∀ w, St X.C w V → St X.C w V') (h : TL X ops V' σ rest Q) : TL X ops V σ rest Q := ie f h
theorem cM {cd : Code} (V' : List HP) (f : ∀ w, St X.C w V → St X.C w V') (h : TC X V' σ cd Q) : TC X V σ cd Q := mz f h
theorem qM {e : Exit} (V' : List HP) (f : ∀ w, St X.C w V → St X.C w V') (h : TQ X V' σ e Q) : TQ X V σ e Q := wP f h
theorem gz {T : TypeId} {x : Operand} {l : List Value} (e : ev σ x = .agg l.toArray) (h : ∀ b, TL X ops (aK b l T :: V) (fx σ d' (.pointer (some ⟨b, 0, none⟩))) rest Q) (a : dok X.n d' = true := by exact rfl) (hw : eA ops σ ⟨d', .box T x, ty, pos, af, gd⟩ = true := by exact rfl) : TL X ops V σ (⟨d', .box T x, ty, pos, af, gd⟩ :: rest) Q :=
  gh a hw (by rw [e]; rfl) h
theorem lC {A : Type} {f : FuncId} {xs : Array Operand} {e : Array TypeId} {as : List Value} {b : List HP} {a : A → Value × List HP} (m : Nat) (q : bH X.P f = true) (h : xs.toList.map (ev σ) = as) (i : FnOk X.P f as b a) (g : tk m V = b) (k : ∀ x, TL X ops ((a x).2 ++ dp m V) (fx σ d' (a x).1) rest Q)
    (j : dok X.n d' = true := by exact rfl) (hw : eA ops σ ⟨d', .call ⟨.value (.func f), xs, e⟩, ty, pos, af, gd⟩ = true := by exact rfl) : TL X ops V σ (⟨d', .call ⟨.value (.func f), xs, e⟩, ty, pos, af, gd⟩ :: rest) Q :=
  cU m j hw q h i g k
theorem cQ {x : Code} (b : List (Nat × Value)) (a : List HP) (e : TC X V σ x (fK (Jn X (fun _ : Unit × Unit => True) (fun _ => b) (fun _ => a)) Q)) (g : ∀ σ', TQ X a (lv σ' b) .normal Q) : TC X V σ x Q := jU _ _ _ e (fun _ σ' _ => g σ')
theorem qJ {b : List (Nat × Value)} {a : List HP} (h2 : ∀ w, St X.C w V → St X.C w a) (h1 : jh σ b := by exact aS R) : TQ X V σ .normal (fK (Jn X (fun _ : Unit × Unit => True) (fun _ => b) (fun _ => a)) Q) := eF ((), ()) trivial h1 h2
theorem qI {A : Type} {pf : A → Prop} {e : A → List (Nat × Value)} {b : A → List HP} (a : A) (g : pf a) (h2 : ∀ w, St X.C w V → St X.C w (b a)) (h1 : jh σ (e a) := by exact aS R) : TQ X V σ .normal (fK (Jn X pf e b) Q) := eF a g h1 h2
theorem qA {S E A : Type} {e : S → A → List (Nat × Value)} {b : S → A → List HP} {s : S} (a : A) (h2 : ∀ w, St X.C w V → St X.C w (b s a)) (h1 : jh σ (e s a) := by exact aS R) : TQ X V σ .normal (fK (wM X (E := E) (.inl s) e b) Q) := re a h1 h2
theorem cL {α : Type} {K : Kind α} {a : Option Addr} {n c : Nat} {xs : List α} {cd : Code} (i : Nat) (b : gC (lk V i) K (.slice a n c) xs) (h : n = xs.length → TC X V σ cd Q) : TC X V σ cd Q := cD i b h
end
end Go.Pg
namespace Go.Pg
def jx : Nat := 1099511627776
end Go.Pg
namespace Go.Pg
section
variable {X : Cx} {V : List HP} {σ : cY} {Q : Exit → cY → World → Prop} {ops : Array Oper} {rest : List Oper} {o : Oper} {cd : Code} {ex : Exit}
variable {d : Option Nat} {ty : TypeId} {pos : String} {af : Array Edge} {gd : Option (Nat × Bool)}
variable {α : Type}
end
section
variable {C w : World} {V : List HP} {α : Type}
end
section
variable {X : Cx} {V : List HP} {σ : cY} {Q : Exit → cY → World → Prop} {ops : Array Oper} {rest : List Oper} {o : Oper} {cd : Code} {ex : Exit}
variable {d : Option Nat} {ty : TypeId} {pos : String} {af : Array Edge} {gd : Option (Nat × Bool)}
variable {α : Type}
end
end Go.Pg
namespace Go.Pg
section
variable {X : Cx} {V V0 : List HP} {σ : cY} {Q : Exit → cY → World → Prop} {ops : Array Oper} {o : Oper} {k fuel : Nat} {listed : Array Bool}
theorem d1 (i : Nat) (a : ops[i]? = some o) (h : TL X ops V σ [o] (DK X ops k V0 fuel listed i Q)) (b : Region.ready .any ops listed = [i] := by kernel_rfl) : TD X ops k V0 (fuel + 1) listed V σ Q := vc i b a h
theorem dD (h : TQ X V σ .normal Q) (a : Region.ready .any ops listed = [] := by kernel_rfl) : TD X ops k V0 fuel listed V σ Q := th a h
theorem qE {i : Nat} (h : TD X ops k V0 fuel (listed.setIfInBounds i true) V σ Q) (a : Nat.blt i k = false := by exact rfl) : TQ X V σ .normal (DK X ops k V0 fuel listed i Q) := tl a h
end
end Go.Pg
namespace Go.Pg
section
variable {X : Cx} {V : List HP} {σ : cY} {Q : Exit → cY → World → Prop} {ops : Array Oper} {rest : List Oper}
variable {d : Option Nat} {ty : TypeId} {pos : String} {af : Array Edge} {gd : Option (Nat × Bool)}
variable {α β : Type}
end
section
variable (K : Kind Int) (A : Option Addr) (n c : Nat)
end
section
variable {C w : World} {V : List HP} {α β γ : Type}
end
section
variable {α β γ : Type}
end
section
variable {X : Cx} {V : List HP} {σ : cY} {Q : Exit → cY → World → Prop}
end
theorem St.em {C w : World} {V : List HP} (s : St C w V) : St C w (tb :: V) := by
  obtain ⟨a, I, h, g, j, l, s⟩ := s
  exact ⟨a, I, h, g, j, l, Hp.none, h, Join.none h, rfl, s⟩
end Go.Pg
namespace Go.Pg
section
variable {X : Cx} {V : List HP} {σ : cY} {Q : Exit → cY → World → Prop} {ops : Array Oper} {rest : List Oper}
variable {d : Option Nat} {ty : TypeId} {pos : String} {af : Array Edge} {gd : Option (Nat × Bool)}
theorem iI {α : Type} {K : Kind α} {t e : TypeId} {x y : Operand} {m : Int} {z : α} {u : Nat} (hd : dok X.n d = true) (hw : eA ops σ ⟨d, .makeSlice t x y, ty, pos, af, gd⟩ = true) (ht : km X.P t = some e) (q : gb X.P e = some K.sz) (E : fR X.P e = some u)
    (hz : lK X.P K e z) (a0 : 0 < K.sz) (hx : ev σ x = .int .i64 0) (hy : ev σ y = .int .i64 m) (h0 : 0 ≤ m) (h1 : m ≤ 140737488355328) (h2 : u * m ≤ 281474976710656)
    (h : ∀ a c, TL X ops (ow K e (.slice a ([] : List α).length c) [] :: V) (fx σ d (.slice a ([] : List α).length c)) rest Q) : TL X ops V σ (⟨d, .makeSlice t x y, ty, pos, af, gd⟩ :: rest) Q := by
  intro w s
  obtain ⟨cs, g, L, a1⟩ := hz
  unfold jQ at g
  unfold gb at q
  unfold fR at E
  cases hi : X.P.info? e with
  | none => rw [hi] at q; cases q
  | some info =>
    rw [hi] at g q E
    simp only [Option.map_some, Option.some.injEq, Option.bind_some] at g q E
    cases hzz : info.zero with
    | none => rw [hzz] at g; cases g
    | some zv =>
      rw [hzz] at g
      simp only [Option.map_some, Option.some.injEq] at g
      have hr := run_make (P := X.P) w t e info zv (gp ht) hi hzz .i64 .i64 0 m (Int.le_refl _) h0 (by rw [E]; exact h2) (by omega)
      refine eW hd hw ?_
      have J : (execOp (ev σ) ⟨d, .makeSlice t x y, ty, pos, af, gd⟩).run X.P w = .ok (.value (.slice (some ⟨w.heap.size, 0, none⟩) 0 m.toNat)) (w.alloc (.cells (madeCells zv.cells (m.toNat * info.size)) e)) := by
        simp only [execOp, hx, hy, Sem.run_bind, hr, Result.andThen_ok, Sem.run_pure]; rfl
      rw [J]
      have M : zv.cells.size = K.sz := by rw [← L, ← g]; simp
      have F : (madeCells zv.cells (m.toNat * info.size)).toList = (List.replicate m.toNat cs).flatten := by
        rw [q, ← M, ku _ (by omega), ← g]
      have D : (madeCells zv.cells (m.toNat * info.size)).toList.length = m.toNat * K.sz := by rw [Array.length_toList, size_madeCells, q]
      refine h (some ⟨w.heap.size, 0, none⟩) m.toNat _ (St.new s (fun a => a.alloc _) (fun I _ => ?_) ?_)
      · obtain ⟨h', U⟩ := Join.of_disj (h1 := Hp.one w.heap.size (.cells (madeCells zv.cells (m.toNat * info.size)) e)) (h2 := Hp.none) (fun _ => .inr rfl)
        have T := U.symm.eq_of_none
        refine ⟨h', .inr ⟨w.heap.size, m.toNat, [], [], (madeCells zv.cells (m.toNat * info.size)).toList, (0, 0), Hp.none, by simp, by simp, by simp only [maxLen]; omega, by rw [D]; simp, .inl rfl, ?_, rfl, rfl⟩, ?_, ?_⟩
        · simp only [List.nil_append, List.append_nil, Array.toArray_toList]
          exact U
        · rw [T]
          intro b o j
          simp only [Hp.one] at j
          split at j
          · rename_i i
            subst i
            rw [← Option.some.inj j]
            show (w.heap.push _)[w.heap.size]? = _
            simp
          · cases j
        · rw [T]
          intro b i
          simp only [Hp.one] at i
          split at i
          · rename_i j; exact Nat.le_of_eq j.symm
          · exact absurd rfl i
      · intro b o j
        have G := (Array.getElem?_eq_some_iff.1 j).1
        show (w.heap.push _)[b]? = _
        rw [Array.getElem?_push, if_neg (Nat.ne_of_lt G)]
        exact j
end
end Go.Pg
namespace Go.Pg
abbrev gl (g : Nat) (m : Int) : HP := cl g 0 [.int .i64 m]
theorem St.dg {C w : World} {V : List HP} {g k : Nat} {cs : List Value} (s : St C w V) (i : Nat) (e : lk V i = cl g k cs) : St C w (cl g k cs :: V) := by
  obtain ⟨a, I, h, b, j, l, st⟩ := s
  obtain ⟨h1, h2, m, p, s'⟩ := eY i st
  rw [e] at p
  exact ⟨a, I, h, b, j, l, Hp.none, h, Join.none h, ⟨rfl, p.2⟩, st⟩
theorem np {P : Program} {f : FuncId} {args : List Value} {v : Value} (h : ∀ w, Calls P f args.toArray w fun e a => e = .returned v ∧ a = w) : FnOk P f args [] (fun _ : Unit => (v, [])) := by
  intro C w V s
  refine Calls.mono' (h w) ?_
  rintro e a ⟨rfl, rfl⟩
  exact ⟨(), rfl, s⟩
theorem vg {P : Program} {f : FuncId} {args : List Value} {v : Value} {g : Nat} {m : Int} (h : ∀ w, w.cell? ⟨g, 0, none⟩ = some (.int .i64 m) → Calls P f args.toArray w fun e a => e = .returned v ∧ a = w) : FnOk P f args [gl g m] (fun _ : Unit => (v, [])) := by
  intro C w V s
  obtain ⟨I, j, p, i, q, -⟩ := s.look 0
  have b : w.cell? ⟨g, 0, none⟩ = some (.int .i64 m) := gg i (p.2 0 _ rfl)
  refine Calls.mono' (h w b) ?_
  rintro e a ⟨rfl, rfl⟩
  exact ⟨(), rfl, s.rm 0⟩
end Go.Pg
namespace Go.Pg
def vh (P : Program) (T : TypeId) : Option (Nat × TypeId) := match P.underlying T with
  | some (.array n e) => some (n, e)
  | _ => none
theorem oW {P : Program} {T : TypeId} {n : Nat} {e : TypeId} (h : vh P T = some (n, e)) : P.underlying T = some (.array n e) := by
  unfold vh at h
  split at h
  · rename_i g b a
    injection h with h; injection h with h1 h2
    subst h1 h2; exact a
  · cases h
section
variable {X : Cx} {V : List HP} {σ : cY} {Q : Exit → cY → World → Prop} {ops : Array Oper} {rest : List Oper}
variable {d : Option Nat} {ty : TypeId} {pos : String} {af : Array Edge} {gd : Option (Nat × Bool)}
theorem tv {T e : TypeId} {n sz : Nat} {z : List Value} (h : vh X.P T = some (n, e)) (m : jQ X.P T = some z) (j : gb X.P e = some sz) : VO X V σ ⟨d, .build T #[], ty, pos, af, gd⟩ (.agg z.toArray) := by
  intro w _
  obtain ⟨g, a, b⟩ := iz (P := X.P) (w := w) m
  have u : ∀ q, Instr.fill q g.cells [] = some g.cells := fun _ => rfl
  have i : g.cells = z.toArray := by rw [b]
  simp only [execOp, Instr.build, Sem.run_bind, a, Result.andThen_ok, run_underlying (oW h), eE j, List.map_toArray, List.map_nil, i]
  rfl
theorem oX {t e : TypeId} {x y : Operand} {g o n sz : Nat} {k : IntKind} {j : Int} (a : vh X.P t = some (n, e)) (b : gb X.P e = some sz) (m : ev σ x = .pointer (some ⟨g, o, none⟩)) (q : ev σ y = .int k j) (h : 0 ≤ j ∧ j < (n : Int)) :
    VO X V σ ⟨d, .indexAddr t x y, ty, pos, af, gd⟩ (.pointer (some ⟨g, o + j.toNat * sz, none⟩)) := by
  intro w _
  have i := oW a
  simp [execOp, m, q, Instr.indexAt, asIntOf, run_underlying i, Instr.sureAddr, h.1, h.2, eE b, fi]
end
theorem oY {k : IntKind} (I : Hp) (xs : List Int) : fB (Kind.int k) I Hp.none xs (xs.map (Value.int k)) := by
  induction xs with
  | nil => exact ⟨rfl, rfl⟩
  | cons x xs ih => exact ⟨Hp.none, Hp.none, [.int k x], _, Join.none _, rfl, ⟨rfl, rfl⟩, ih⟩
theorem St.b2o {C w : World} {V : List HP} {b : Nat} {T : Nat} {k : IntKind} {cs : List Value} (s : St C w V) (i : Nat) (xs : List Int) (g : lk V i = aK b cs T) (m : cs = xs.map (Value.int k)) {n : Nat} (u : xs.length = n) (a : Nat.ble n 1000 = true) :
    St C w (ow (Kind.int k) T (.slice (some ⟨b, 0, none⟩) n n) xs :: Pg.rm V i) := by
  subst u
  have e := s.mv i
  unfold Pg.mv at e
  refine St.imp (A := [lk V i]) (B := [_]) (V := Pg.rm V i) e ?_
  rintro I h _ _ ⟨h1, h2, j, p, E⟩
  rw [g] at p
  obtain rfl : h2 = Hp.none := E
  refine ⟨h1, Hp.none, j, ?_, rfl⟩
  obtain ⟨fr, D, q⟩ : ∃ fr, h1 = Hp.one b (.cells cs.toArray T fr) ∧ (fr = (0, 0) ∨ cs.length ≤ fr.1) := ⟨(0, 0), p, .inl rfl⟩
  have a := Nat.le_of_ble_eq_true a
  subst m
  exact .inr ⟨b, xs.length, [], xs.map (Value.int k), [], fr, Hp.none, rfl, Nat.le_refl _, by simp only [maxLen]; omega, by simp, by simpa using q, by rw [D]; simpa using (Join.none _).symm, oY I xs⟩
end Go.Pg
namespace Go.Pg
def InvOk {A : Type} (P : Program) (v : Value) (a : String) (args : List Value) (e : List HP) (b : A → Value × List HP) : Prop :=
  ∃ (f : FuncId) (as : List Value), (∀ w, (callMethod v a args.toArray).run P w = .ok (.enter f as.toArray) w) ∧ FnOk P f as e b
theorem InvOk.mk {A : Type} {P : Program} {v r : Value} {a : String} {args : List Value} {e : List HP} {b : A → Value × List HP} {f : FuncId}
    (h : ∀ (args : Array Value) w, (callMethod v a args).run P w = .ok (.enter f (#[r] ++ args)) w) (g : FnOk P f (r :: args) e b) : InvOk P v a args e b :=
  ⟨f, r :: args, fun w => by rw [h]; simp, g⟩
theorem InvOk.perm {A : Type} {P : Program} {v : Value} {a : String} {args : List Value} {e Pre' : List HP} {b : A → Value × List HP} (g : InvOk P v a args e b) (h : ∀ C w V, St C w (Pre' ++ V) → St C w (e ++ V)) : InvOk P v a args Pre' b := by
  obtain ⟨f, as, h1, h2⟩ := g
  exact ⟨f, as, h1, h2.perm h⟩
theorem InvOk.lends {T : Type} {P : Program} {v : Value} {b : String} {args : List Value} {A' A B : List HP} {a : T → Value × List HP} (e : InvOk P v b args (A ++ B) a) (g : nl A' A) (h : ∀ x, AllC (a x).2) : InvOk P v b args (A' ++ B) (fun x => ((a x).1, A' ++ (a x).2)) := by
  obtain ⟨f, as, h1, h2⟩ := e
  exact ⟨f, as, h1, h2.lends g h⟩
section
variable {X : Cx} {V : List HP} {σ : cY} {Q : Exit → cY → World → Prop} {ops : Array Oper} {rest : List Oper}
variable {d : Option Nat} {ty : TypeId} {pos : String} {af : Array Edge} {gd : Option (Nat × Bool)}
end
end Go.Pg
namespace Go.Pg
def ob (l : Nat) (o : Obj) : HP := ⟨fun _ h => h = Hp.one l o, fun _ e => e⟩
abbrev qL (l : Nat) (r : Loop) : HP := ob l (.loop r)
def pe {A : Type} (f : A → List HP) : HP := ⟨fun I h => ∃ x, eT (f x) I h, fun l ⟨x, s⟩ => ⟨x, gf l s⟩⟩
theorem St.pei {C w : World} {A : Type} {f : A → List HP} {V : List HP} (x : A) (s : St C w (f x ++ V)) : St C w (pe f :: V) := by
  refine St.imp (A := f x) (B := [pe f]) s ?_
  intro I h _ _ a
  exact ⟨h, Hp.none, (Join.none h).symm, ⟨x, a⟩, rfl⟩
theorem St.peo {C w : World} {A : Type} {f : A → List HP} {V : List HP} (s : St C w (pe f :: V)) : ∃ x, St C w (f x ++ V) := by
  obtain ⟨a, I, h, g, j, l, h1, h2, b, ⟨x, c⟩, d⟩ := s
  exact ⟨x, a, I, h, g, j, l, cS.2 ⟨h1, h2, b, c, d⟩⟩
theorem gQ (l : Nat) (o : Obj) : Hp.one l o l = some o := by simp [Hp.one]
theorem kL {l b : Nat} {o : Obj} (h : Hp.one l o b ≠ none) : b = l := by
  unfold Hp.one at h
  split at h
  · assumption
  · exact absurd rfl h
theorem hT {C w : World} {V : List HP} {l : Nat} {o : Obj} (s : St C w V) (i : Nat) (h : lk V i = ob l o) : w.heap[l]? = some o := by
  obtain ⟨I, g, p, _, a, _⟩ := s.look i
  rw [h] at p
  cases p
  exact a l o (gQ l o)
theorem Same.putObj {C w : World} (s : Same C w) (l : Nat) (o : Obj) : Same C (w.putObj l o) := ⟨s.os, s.tape, s.output⟩
theorem St.putObj {C w : World} {V : List HP} {l : Nat} {o o' : Obj} (s : St C w (ob l o :: V)) : St C (w.putObj l o') (ob l o' :: V) := by
  have j := hT s 0 rfl
  have g : l < w.heap.size := (Array.getElem?_eq_some_iff.1 j).1
  refine St.turn s 0 (q := ob l o') (fun a => a.putObj l o') ?_
  rintro I h e _ _
  cases e
  refine ⟨_, rfl, ?_, ?_, ?_⟩
  · intro b o2 e
    have := kL (by rw [e]; exact fun h => by cases h)
    subst this
    rw [gQ] at e
    cases e
    exact World.putObj_heap_same g
  · intro b i
    have := kL i
    subst this
    exact .inl (by rw [gQ]; exact fun h => by cases h)
  · intro b o2 e h2
    rw [World.putObj_heap_other]
    · exact h2
    · rintro rfl
      rw [gQ] at e; cases e
theorem St.newOb {C w : World} {V : List HP} (s : St C w V) (o : Obj) : St C (w.alloc o) (ob w.heap.size o :: V) := by
  refine St.new s (q := ob w.heap.size o) (fun a => a.alloc o) (fun I _ => ⟨_, rfl, ?_, ?_⟩) ?_
  · intro b o2 e
    have := kL (by rw [e]; exact fun h => by cases h)
    subst this
    rw [gQ] at e
    cases e
    exact World.alloc_heap_new w o
  · intro b i
    exact Nat.le_of_eq (kL i).symm
  · intro b o2 e
    show (w.heap.push o)[b]? = some o2
    have g := (Array.getElem?_eq_some_iff.1 e).1
    rw [Array.getElem?_push, if_neg (Nat.ne_of_lt g)]
    exact e
def qO (ro : Option Nat) : Fence := { Fence.wide with round := ro }
theorem o8 {ro : Option Nat} {n : Nat} {P : Program} {f : FuncId} {args : Array Value} {w : World} {R : Ending → World → Prop} (h : Calls P f args w R) : CallsIn (qO ro) n P f args w R :=
  (callsIn_wide (n := n)).2 h
theorem oZ {ro : Option Nat} {n : Nat} {P : Program} {a : String} {args : Array Value} {w : World} {R : Value → World → Prop} (h : Rows P a args w R) : RowsIn (qO ro) n P a args w R := by
  intro c cs _
  obtain ⟨v, b, r, s⟩ := h c cs
  exact ⟨v, b, r, stepsIn_wide.2 s⟩
theorem lU {ro : Option Nat} {P : Program} {o : Oper} {a : Act} {b : Act → World → Prop} {Q : Exit → Act → World → Prop} {r : Result Next} (h : o.upon P a b Q r) : o.uponIn (qO ro) 0 P a b Q r := by
  match r, h with
  | .ok (.value v) w', h => exact h
  | .ok .skip w', h => exact h
  | .ok (.defer d) w', h => exact h
  | .ok (.enter f args) w', h =>
    refine ⟨(fun h => by cases h), ?_⟩
    refine (o8 h).mono ?_
    intro e i g
    cases e <;> exact g
  | .ok (.row row args) w', h => exact ⟨(fun h => by cases h), oZ h⟩
  | .halt (.panic v) w', h => exact h
def fU (l : List Oper) : Bool := l.all fun o => match o.op with
  | .defer _ => false
  | _ => true
theorem jX {ro : Option Nat} {P : Program} {ops : Array Oper} {Q : Exit → Act → World → Prop} (D : ¬ LetsOut Q) : ∀ (l : List Oper) (a : Act) (w : World), fU l = true → wpList P ops Q l a w → wpListIn (qO ro) 0 P ops Q l a w := by
  intro l
  induction l with
  | nil => exact fun a w _ h => h
  | cons o l ih =>
    intro a w g h
    simp only [fU, List.all_cons, Bool.and_eq_true] at g
    have m : ∀ c, o.op ≠ .defer c := by
      intro c u
      have := g.1
      rw [u] at this
      cases this
    unfold wpList at h
    unfold wpListIn
    split
    · rename_i hw
      rw [if_pos hw] at h
      have h := h.resolve_right fun h => D h.2
      refine ⟨fun _ _ => trivial, ?_⟩
      have e : o.semAt (qO ro).round a.eval = execOp a.eval o := Oper.semAt_eq _ _ _ m
      rw [e]
      unfold Oper.wp at h
      have i : ∀ r, o.upon P a (wpList P ops Q l) Q r → o.upon P a (wpListIn (qO ro) 0 P ops Q l) Q r := by
        intro r b
        match r, b with
        | .ok (.value v) w', b => exact ih _ _ g.2 b
        | .ok .skip w', b => exact ih _ _ g.2 b
        | .ok (.defer _) w', b => exact ih _ _ g.2 b
        | .ok (.enter f args) w', b =>
          refine Calls.mono' b ?_
          intro e q j
          cases e with
          | returned v => exact ih _ _ g.2 j
          | panicked c => exact j
          | outgrown => exact j
        | .ok (.row row args) w', b => exact Rows.mono b fun v q h => ih _ _ g.2 h
        | .halt (.panic v) w', b => exact b
      exact lU (i _ h)
    · rename_i hw
      rw [if_neg hw] at h
      exact ⟨fun _ _ => trivial, ih _ _ g.2 h⟩
def wQ {A : Type} (P : Program) (l : Nat) (args : List Value) (g : List HP) (a : A → Value × List HP) : Prop :=
  ∀ C w V, St C w (g ++ V) → ∃ f tmps b body, (Instr.yield l args.toArray).run P w = .ok (.round l f tmps b body) w ∧
    RoundIn Fence.wide 0 P l f tmps b body w (fun e h => ∃ x, e = .returned (a x).1 ∧ St C h ((a x).2 ++ V))
def vj (P : Program) (N : Nn) (ops : Array Oper) (rest : List Oper) (Q : Exit → cY → World → Prop) (σ : cY) (w : World) : Prop :=
  ∀ a : Act, a.tmps.size = N.n → a.defers = N.ds → eN a = σ → wpListIn Fence.wide 0 P ops (fq N Q) rest a w
section
variable {X : Cx} {V : List HP} {σ : cY} {Q : Exit → cY → World → Prop} {ops : Array Oper} {rest : List Oper}
variable {d : Option Nat} {ty : TypeId} {pos : String} {af : Array Edge} {gd : Option (Nat × Bool)}
theorem nq {N : Nn} {Q : Exit → cY → World → Prop} (h : ∀ σ w, Q .outgrown σ w → False) : ¬ LetsOut (fq N Q) := by
  rintro ⟨a, w, q⟩
  exact h _ _ (eZ q (by simp)).2.2
theorem tz {id : Nat} {l : List Oper} (k : Nat) (J : fU (l.take k) = true) (I : ∀ σ w, Q .outgrown σ w → False)
    (h : TL X l.toArray V σ (l.take k) (fK (fun σ w => vj X.P X.n l.toArray (l.drop k) Q σ w) Q)) : TC X V σ (.region id l.toArray false) Q := by
  intro w s a h1 h2 G
  refine (wpIn_wide (n := 0)).1 (wpIn_region_lit ?_)
  have h := jX (ro := none) (nq (N := X.n) (Q := fK (fun σ w => vj X.P X.n l.toArray (l.drop k) Q σ w) Q) I) _ a w J (h w s a h1 h2 G)
  have D : ∀ (j : List Oper) (a : Act) (w : World), wpListIn Fence.wide 0 X.P l.toArray (fq X.n (fK (fun σ w => vj X.P X.n l.toArray (l.drop k) Q σ w) Q)) j a w → wpListIn Fence.wide 0 X.P l.toArray (fq X.n Q) (j ++ l.drop k) a w := by
    intro j
    induction j with
    | nil =>
      intro a w h
      obtain ⟨L, M, T⟩ := eZ h (by simp)
      exact T a L M rfl
    | cons o j ih =>
      intro a w h
      have m : ∀ e, e ≠ Exit.normal → ∀ a w, fq X.n (fK (fun σ w => vj X.P X.n l.toArray (l.drop k) Q σ w) Q) e a w → fq X.n Q e a w := by
        intro e i a w q
        cases e with
        | normal => exact absurd rfl i
        | _ => exact q
      unfold wpListIn at h
      show wpListIn Fence.wide 0 X.P l.toArray (fq X.n Q) (o :: (j ++ l.drop k)) a w
      unfold wpListIn
      split
      · rename_i hw
        rw [if_pos hw] at h
        refine ⟨h.1, ?_⟩
        have h := h.2
        revert h
        generalize (o.semAt Fence.wide.round a.eval).run X.P w = r
        intro g
        match r, g with
        | .ok (.value v) w', g => exact ih _ _ g
        | .ok .skip w', g => exact ih _ _ g
        | .ok (.defer _) w', g => exact ih _ _ g
        | .ok (.enter f args) w', g =>
          refine ⟨g.1, g.2.mono ?_⟩
          intro e E i
          cases e with
          | returned v => exact ih _ _ i
          | panicked c => exact m _ (by intro h; cases h) _ _ i
          | outgrown => obtain ⟨b, u, F⟩ := i; exact ⟨b, u, m _ (by intro h; cases h) _ _ F⟩
        | .ok (.row row args) w', g => exact ⟨g.1, g.2.mono fun v E h => ih _ _ h⟩
        | .ok (.round l0 f tmps asn body) w', g =>
          refine ⟨g.1, g.2.mono ?_⟩
          intro e E i
          cases e with
          | returned v => exact ih _ _ i
          | panicked c => exact m _ (by intro h; cases h) _ _ i
          | outgrown => obtain ⟨b, u, F⟩ := i; exact ⟨b, u, m _ (by intro h; cases h) _ _ F⟩
        | .halt (.panic v) w', g => exact m _ (by intro h; cases h) _ _ g
      · rename_i hw
        rw [if_neg hw] at h
        exact ⟨h.1, ih _ _ h.2⟩
  have := D _ a w h
  rw [List.take_append_drop] at this
  exact this
theorem rf {A : Type} {q : Operand} {l : Nat} {xs : Array Operand} {g : Array TypeId} {as : List Value} {b : A → Value × List HP} {i : List HP} {j : Nat} (m : Nat)
    (hv : ev σ q = .func (.yield l) #[] #[]) (L : xs.toList.map (ev σ) = as) (M : wQ X.P l as i b) (J : tk m V = i) (I : ∀ σ w, Q .outgrown σ w → False) (T : fU rest = true)
    (k : ∀ x, TL X ops ((b x).2 ++ dp m V) (iW σ j (b x).1) rest Q) (D : dok X.n (some j) = true := by exact rfl) :
    TQ X V σ .normal (fK (fun σ w => vj X.P X.n ops (⟨some j, .call ⟨.value q, xs, g⟩, ty, pos, af, none⟩ :: rest) Q σ w) Q) := by
  intro w s a h1 h2 F
  refine wpListIn_plain rfl fun K G => ⟨fun _ _ => trivial, ?_⟩
  rw [← kv m V, J] at s
  obtain ⟨f, tmps, u, body, hy, U⟩ := M X.C w _ s
  have E : (execOp (ev σ) ⟨some j, .call ⟨.value q, xs, g⟩, ty, pos, af, none⟩).run X.P w = .ok (.round l f tmps u body) w := by
    have e : (#[] ++ xs.map (ev σ)) = as.toArray := by rw [kI xs _ L]; simp
    simp only [execOp, resolve, hv, Deferred.ofValue, Sem.run_bind, Sem.run_pure, Result.andThen_ok, invoke, e, hy]
  rw [show Fence.wide.round = none from rfl, Oper.semAt_none, gH, F, E]
  refine ⟨(fun h => by cases h), U.mono ?_⟩
  rintro e w' ⟨x, rfl, s'⟩
  refine G _ _ ?_
  obtain ⟨p1, p2, p3⟩ := j1 (o := ⟨some j, .call ⟨.value q, xs, g⟩, ty, pos, af, none⟩) D h1 h2 F (b x).1
  exact jX (ro := none) (nq I) _ _ _ T (k x w' s' _ p1 p2 p3)
end
end Go.Pg
namespace Go.Pg
theorem St.dn {C w : World} {p : HP} {A V : List HP} (s : St C w (p :: (A ++ V))) : St C w (A ++ p :: V) := by
  obtain ⟨q, I, h, g, j, lw, g1, G, e, c, d⟩ := s
  obtain ⟨u, D, i, a, b⟩ := cS.1 d
  obtain ⟨m, E, F⟩ := Join.assoc' i.symm e
  exact ⟨q, I, h, g, j, lw, cS.2 ⟨u, m, F.symm, a, g1, D, E, c, b⟩⟩
theorem St.up {C w : World} {p : HP} {A V : List HP} (s : St C w (A ++ p :: V)) : St C w (p :: (A ++ V)) := by
  obtain ⟨q, I, h, g, j, lw, d⟩ := s
  obtain ⟨D, G, i, a, g1, e, u, c, b⟩ := cS.1 d
  obtain ⟨m, E, F⟩ := Join.assoc' u.symm i
  exact ⟨q, I, h, g, j, lw, g1, m, F.symm, c, cS.2 ⟨D, e, E, a, b⟩⟩
structure Rec (rc : Loop) (ps : Array Tmp) (asn body : Code) (n : Nat) (σ : cY) : Prop where
  st : rc.state = .ready
  pe : rc.pending = none
  ps : rc.params = ps
  asn : rc.assign = asn
  body : rc.body = body
  sz : rc.tmps.size = n
  env : (fun t => rc.tmps.getD t undef) = σ
def wR (X : Cx) (σ2 : cY) (V : List HP) : Exit → cY → World → Prop
  | .normal, σ, w => σ = σ2 ∧ St X.C w V
  | _, _, _ => False
def wS (X : Cx) (go : Bool) {A : Type} (f : A → List HP) (V : List HP) : Exit → cY → World → Prop
  | .normal, _, w => go = true ∧ ∃ x, St X.C w (f x ++ V)
  | _, _, _ => False
theorem vk {X : Cx} {V : List HP} {σ : cY} : TQ X V σ .normal (wR X σ V) := fun w s => ⟨rfl, s⟩
theorem wT {X : Cx} {A : Type} {f : A → List HP} {V0 V : List HP} {σ : cY} {go : Bool} (x : A) (a : go = true) (h : ∀ w, St X.C w V0 → St X.C w (f x ++ V)) : TQ X V0 σ .normal (wS X go f V) := fun w s => ⟨a, x, h w s⟩
theorem lV {a : Loop} {s : LoopState} (h1 : a.state = .ready) (h2 : a.pending = none) : ({ { a with state := s } with state := .ready, pending := none } : Loop) = a := by
  cases a; simp only at h1 h2; subst h1; subst h2; rfl
abbrev mD (D : Nat) : Deferred := { target := .collected D, args := #[] }
def uS {A : Type} (P : Program) (fn : Func) (C : World) (V : List HP) (b : A → Value × List HP) : Act → World → Prop :=
  fun a w => LeavesInM Fence.wide 0 P fn a.tmps (fun e g => ∃ x, e = .returned (b x).1 ∧ St C g ((b x).2 ++ V)) a.defers .returning w
theorem tA {A : Type} {P : Program} {f : FuncId} {fn : Func} {c : Code} {args : List Value} {i : List HP} {b : A → Value × List HP} (I : P.funcs[f]? = some fn) (G : fn.body = some c) (n : Nat) (E : fn.ntmps = n) (D : Nat.ble args.length n = true)
    (h : ∀ C V, TC ⟨P, ⟨n, [], uS P fn C V b⟩, C⟩ (i ++ V) (oC args.toArray) c (mm P fn (sg ⟨P, ⟨n, [], uS P fn C V b⟩, C⟩ V b))) : FnOk P f args i b := by
  subst E
  intro C w V s
  refine callsIn_wide.1 (callsIn_of_wp_marks (n := 0) I G trivial ?_)
  have D : args.toArray.size ≤ fn.ntmps := by have := Nat.le_of_ble_eq_true D; simpa using this
  refine (wpIn_wide (n := 0)).2 (wp_mono (h C V w s _ (by simp at D ⊢; omega) rfl n9) ?_)
  rintro e a g q
  rcases q with ⟨L, J, F⟩ | ⟨rfl, q⟩
  · have j : ∀ v, (gI fn (eN a)).run P g = .ok v g → sg ⟨P, ⟨fn.ntmps, [], uS P fn C V b⟩, C⟩ V b v g → LeavesInM Fence.wide 0 P fn a.tmps (fun e g => ∃ x, e = .returned (b x).1 ∧ St C g ((b x).2 ++ V)) a.defers .returning g := by
      rintro v m ⟨x, rfl, s'⟩
      rw [J]
      exact ⟨_, m, x, rfl, s'⟩
    cases e with
    | normal =>
      obtain ⟨v, m, u⟩ := F
      exact j v m u
    | ret =>
      obtain ⟨v, m, u⟩ := F
      exact j v m u
    | _ => exact F.elim
  · exact q
def Rg (X : Cx) (b rest : Code) (Q : Exit → cY → World → Prop) : cY → World → Prop := fun σ w =>
  ∀ a : Act, a.tmps.size = X.n.n → a.defers = X.n.ds → eN a = σ → b.wp X.P (Exit.then (rest.wp X.P (fq X.n Q)) (fq X.n Q)) a w
theorem tB {X : Cx} {V : List HP} {σ : cY} {Q : Exit → cY → World → Prop} {b g rest : Code} (h : TC X V σ b (fK (Rg X g rest Q) Q)) : TC X V σ (.seq (.seq b g) rest) Q := by
  intro w s a h1 h2 i
  refine wp_seq (wp_seq (wp_mono (h w s a h1 h2 i) ?_))
  rintro e a' D q
  cases e with
  | normal =>
    obtain ⟨j, m, u⟩ := eZ q (by simp)
    exact u a' j m rfl
  | _ => exact q
end Go.Pg
