import Derived.Test.YtkfgngcfcoplpaaPg17
set_option linter.unusedVariables false
set_option linter.unusedSimpArgs false
namespace Go.Pg
section
variable {α : Type}
def hol (K : Kind α) (e : Nat) (v : Value) (xs : List α) (j : Nat) (cs : List Value) : HP where
  p I h := ∃ g c pre aU bU spare fr h1, v = .slice (some ⟨g, pre.length, none⟩) xs.length c ∧ xs.length ≤ c ∧ c ≤ maxLen ∧ spare.length = (c - xs.length) * K.sz ∧
    (fr = (0, 0) ∨ pre.length + (aU ++ cs ++ bU).length + spare.length ≤ fr.1) ∧ aU.length = j * K.sz ∧ Join (Hp.one g (.cells (pre ++ (aU ++ cs ++ bU) ++ spare).toArray e fr)) h1 h ∧
    ∀ I' h' x' cs' g', Hp.le I I' → Join h' h1 g' → K.own I' h' x' cs' → ownL K I' g' (xs.set j x') (aU ++ cs' ++ bU)
  mono := by
    rintro I J h l ⟨g, c, pre, aU, bU, spare, fr, h1, p1, p2, p3, p4, p5, p6, p7, p8⟩
    exact ⟨g, c, pre, aU, bU, spare, fr, h1, p1, p2, p3, p4, p5, p6, p7, fun I' h' x' cs' g' l' => p8 I' h' x' cs' g' (Hp.le_trans l l')⟩
theorem St.focus [Inhabited α] {K : Kind α} {C w : World} {V : List HP} {e g o n c : Nat} {xs : List α} (S : SpO K) (s : St C w V) (i : Nat) (j : Int) (hV : lk V i = ow K e (.slice (some ⟨g, o, none⟩) n c) xs) (h0 : 0 ≤ j) (h1 : j < n) :
    ∃ a, St C w (hol K e (.slice (some ⟨g, o, none⟩) n c) xs j.toNat (S.cells a (ix xs j)) :: (S.ents a (ix xs j) ++ Pg.rm V i)) := by
  obtain ⟨sm, I, hh, gg, jg, l, h1', h2, jS, p, st⟩ := s.mv i
  rw [hV] at p
  have p : owS K e I h1' (.slice (some ⟨g, o, none⟩) n c) xs := p
  rcases p with ⟨A, hv, rfl, _⟩ | ⟨g', c', pre, used, spare, fr, hb, hv, q2, q3, q4, q5, jo, ol⟩
  · injection hv with _ hv _
    omega
  injection hv with e1 e2 e3
  injection e1 with e1
  injection e1 with e1 e4
  subst e1; subst e3; subst e4; subst e2
  obtain ⟨a1, c1, b1, g1, g2, hc, hlen, jn, ox, hput⟩ := ownL_at ol (ix_get h0 h1)
  obtain ⟨a, rfl, hst⟩ := S.sp _ _ _ _ ox
  obtain ⟨m, m1, m2⟩ := Join.assoc' jn.symm jo
  obtain ⟨k, k1, k2⟩ := Join.assoc m2 jS
  exact ⟨a, sm, I, hh, gg, jg, l, m, k, k2, ⟨g, _, pre, a1, b1, spare, fr, g2, rfl, q2, q3, q4, by rw [← hc]; exact q5, hlen, by rw [← hc]; exact m1, fun I' h' x' cs' g' l' jj oo => hput I' h' x' cs' g' l' jj oo⟩, star_app.2 ⟨g1, h2, k1, hst, st⟩⟩
theorem St.unfocus {K : Kind α} {C w : World} {E V : List HP} {e j : Nat} {v : Value} {xs : List α} {cs : List Value} (x' : α) (s : St C w (hol K e v xs j cs :: (E ++ V))) (f : ∀ I h, star E I h → K.own I h x' cs) : St C w (ow K e v (xs.set j x') :: V) := by
  obtain ⟨sm, I, hh, gg, jg, l, h1, h2, jS, ⟨g, c, pre, aU, bU, spare, fr, hb, rfl, q2, q3, q4, q5, q6, jo, hput⟩, st⟩ := s
  obtain ⟨hE, hV, jE, sE, sV⟩ := star_app.1 st
  obtain ⟨k, k1, k2⟩ := Join.assoc' jE jS
  obtain ⟨m, m1, m2⟩ := Join.assoc jo k1
  refine ⟨sm, I, hh, gg, jg, l, k, hV, k2, .inr ⟨g, c, pre, aU ++ cs ++ bU, spare, fr, m, by rw [List.length_set], by rw [List.length_set]; exact q2, q3, by rw [List.length_set]; exact q4, q5, m2, hput I hE x' cs m (Hp.le_refl I) m1.symm (f I hE sE)⟩, sV⟩
end
section
variable {X : Cx} {V : List HP} {σ : Env} {Q : Exit → Env → World → Prop} {ops : Array Oper} {rest : List Oper} {cd : Code}
variable {d : Option Nat} {ty : TypeId} {pos : String} {af : Array Edge} {gd : Option (Nat × Bool)} {α : Type}
theorem t_focus [Inhabited α] {K : Kind α} {e g o n c : Nat} {xs : List α} (S : SpO K) (i : Nat) (j : Int) (hV : lk V i = ow K e (.slice (some ⟨g, o, none⟩) n c) xs) (h0 : 0 ≤ j) (h1 : j < n)
    (h : ∀ a, TL X ops (hol K e (.slice (some ⟨g, o, none⟩) n c) xs j.toNat (S.cells a (ix xs j)) :: (S.ents a (ix xs j) ++ Pg.rm V i)) σ rest Q) : TL X ops V σ rest Q := by
  intro w s
  obtain ⟨a, s'⟩ := s.focus S i j hV h0 h1
  exact h a w s'
theorem look_hol {K : Kind α} {C w : World} {e g o n c j : Nat} {xs : List α} {cs : List Value} (s : St C w V) (i : Nat) (hV : lk V i = hol K e (.slice (some ⟨g, o, none⟩) n c) xs j cs) : ∀ k u, cs[k]? = some u → w.cell? ⟨g, o + j * K.sz + k, none⟩ = some u := by
  obtain ⟨I, hh, p, lI, lh, _⟩ := s.look i
  rw [hV] at p
  obtain ⟨g', c', pre, aU, bU, spare, fr, hb, hv, q2, q3, q4, q5, q6, jo, _⟩ := p
  injection hv with e1 e2 e3
  injection e1 with e1
  injection e1 with e1 e4
  subst e1; subst e4
  have hblk : w.heap[g]? = some (.cells (pre ++ (aU ++ cs ++ bU) ++ spare).toArray e fr) := lh g _ (jo.left g _ (by simp [Hp.one]))
  intro k u hu
  have hk := (List.getElem?_eq_some_iff.1 hu).1
  have : w.cell? ⟨g, pre.length + j * K.sz + k, none⟩ = (pre ++ (aU ++ cs ++ bU) ++ spare)[pre.length + j * K.sz + k]? := by simp [World.cell?, hblk]
  rw [this, List.append_assoc, List.getElem?_append_right (by omega), show pre.length + j * K.sz + k - pre.length = j * K.sz + k by omega, List.append_assoc, List.append_assoc, List.getElem?_append_right (by omega), show j * K.sz + k - aU.length = k by omega, List.getElem?_append_left hk]
  exact hu
theorem v_holf {K : Kind α} {T : TypeId} {x : Operand} {e g o n c fo j : Nat} {xs : List α} {v : Value} {cs : List Value} (i : Nat) (ha : aggB X.P T = some false) (hV : lk V i = hol K e (.slice (some ⟨g, o, none⟩) n c) xs j cs) (hx : ev σ x = .pointer (some ⟨g, o + j * K.sz + fo, none⟩)) (hc : nth cs fo = some v) : VO X V σ ⟨d, .load T x, ty, pos, af, gd⟩ v := by
  intro w s
  have := look_hol s i hV fo v (by rw [← nth_eq]; exact hc)
  simp only [execOp, Instr.loadAt, hx, Instr.sureAddr, Sem.run_bind, Sem.run_pure, Result.andThen_ok, run_loadVar_one ha this]
end
end Go.Pg
