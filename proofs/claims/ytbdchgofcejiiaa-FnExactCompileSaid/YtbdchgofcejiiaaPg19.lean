import Derived.Test.YtbdchgofcejiiaaPg18
set_option linter.unusedVariables false
set_option linter.unusedSimpArgs false
namespace Go.Pg
def pf (φ : Prop) : HP := ⟨fun _ h => h = Hp.none ∧ φ, fun _ e => e⟩
section
variable {C w : World} {V : List HP}
end
section
variable {X : Cx} {V : List HP} {σ : Env} {Q : Exit → Env → World → Prop} {ops : Array Oper} {rest : List Oper} {o : Oper} {cd : Code} {ex : Exit}
variable {d : Option Nat} {ty : TypeId} {pos : String} {af : Array Edge} {gd : Option (Nat × Bool)}
variable {α : Type}
theorem l_sth {K : Kind α} {T e : TypeId} {x y : Operand} {g o n c fo j : Nat} {xs : List α} {v : Value} {cs : List Value} (i : Nat) (hd : dok X.n d = true) (hw : want ops σ ⟨d, .store T x y, ty, pos, af, gd⟩ = true) (hs : szB X.P T = some 1)
    (hV : lk V i = hol K e (.slice (some ⟨g, o, none⟩) n c) xs j cs) (hx : ev σ x = .pointer (some ⟨g, o + j * K.sz + fo, none⟩)) (hy : ev σ y = v) (hv : v.oneCell' = true) (hfo : Nat.blt fo cs.length = true)
    (h : TL X ops (stt V i (hol K e (.slice (some ⟨g, o, none⟩) n c) xs j (cs.set fo v))) (updo σ d undef) rest Q) : TL X ops V σ (⟨d, .store T x y, ty, pos, af, gd⟩ :: rest) Q := by
  intro w s
  have hfo : fo < cs.length := Nat.lt_of_lt_of_le (Nat.lt_succ_self _) (Nat.le_of_ble_eq_true hfo)
  have key : ∃ (_ : Unit) (w' : World), (execOp (ev σ) ⟨d, .store T x y, ty, pos, af, gd⟩).run X.P w = .ok .skip w' ∧ St X.C w' (stt V i (hol K e (.slice (some ⟨g, o, none⟩) n c) xs j (cs.set fo v))) := by
    refine St.act s i (q := fun _ => _) (Ψ := fun _ w' => _) ?_
    intro I hh p _ lw _
    rw [hV] at p
    obtain ⟨g', c', pre, a1, b1, spare, fr, hb, hv', q2, q3, q4, h5, hlen, jo, hput⟩ := p
    injection hv' with e1 e2 e3
    injection e1 with e1
    injection e1 with e1 e4
    subst e1; subst e3; subst e4; subst e2
    have hblk : w.heap[g]? = some (.cells (pre ++ (a1 ++ cs ++ b1) ++ spare).toArray e fr) := lw g _ (jo.left g _ (by simp [Hp.one]))
    have hpos : pre.length + j * K.sz + fo < (pre ++ (a1 ++ cs ++ b1) ++ spare).length := by
      simp only [List.length_append]
      omega
    have hst := run_store_blk (P := X.P) hblk hpos (by rcases h5 with h5 | h5; exact .inl h5; exact .inr (by simpa [Nat.add_assoc] using h5)) hv
    refine ⟨(), w.setCell ⟨g, pre.length + j * K.sz + fo, none⟩ v, ?_⟩
    obtain ⟨h', jo'⟩ := Join.of_disj (h1 := Hp.one g (.cells ((pre ++ (a1 ++ cs ++ b1) ++ spare).set (pre.length + j * K.sz + fo) v).toArray e fr)) (h2 := hb) (fun k => by
      rcases jo.disj k with e | e
      · refine .inl ?_
        simp only [Hp.one] at *
        split at e
        · cases e
        · rename_i hne; rw [if_neg hne]
      · exact .inr e)
    refine ⟨h', ?_, fun a => a.setCell _ _, ?_, ?_, ?_, ?_⟩
    · simp only [execOp, Instr.storeAt, hx, hy, Instr.sureAddr, Sem.run_bind, Sem.run_pure, Result.andThen_ok, run_storeVar_one hs hv hst]
    · have hset : (pre ++ (a1 ++ cs ++ b1) ++ spare).set (pre.length + j * K.sz + fo) v = pre ++ (a1 ++ cs.set fo v ++ b1) ++ spare := by
        rw [List.append_assoc, List.set_append_right _ _ (by omega), show pre.length + j * K.sz + fo - pre.length = j * K.sz + fo by omega, List.set_append_left _ _ (by simp only [List.length_append]; omega), List.append_assoc a1,
          List.set_append_right _ _ (by omega), show j * K.sz + fo - a1.length = fo by omega, List.set_append_left _ _ (by omega)]
        simp [List.append_assoc]
      refine ⟨g, _, pre, a1, b1, spare, fr, hb, rfl, q2, q3, q4, ?_, hlen, ?_, hput⟩
      · rcases h5 with h5 | h5
        · exact .inl h5
        · refine .inr ?_
          simp only [List.length_append, List.length_set] at *
          omega
      · rw [← hset]; exact jo'
    · intro k o' e'
      rcases jo'.cases e' with ⟨e1, _⟩ | ⟨e1, e2⟩
      · simp only [Hp.one] at e1
        split at e1
        · rename_i hk
          subst hk
          rw [← Option.some.inj e1, heap_set_same hblk]
          simp
        · cases e1
      · have hne : k ≠ g := by
          rintro rfl
          simp [Hp.one] at e2
        rw [heap_set_other hne]
        exact lw k _ (jo.right k _ e1)
    · intro k hk
      refine .inl fun hn => hk ?_
      have := (jo.is_none k).1 hn
      refine (jo'.is_none k).2 ⟨?_, this.2⟩
      have := this.1
      simp only [Hp.one] at *
      split at this
      · cases this
      · rename_i hne; rw [if_neg hne]
    · intro k o' hk e'
      have := ((jo.is_none k).1 hk).1
      have hne : k ≠ g := by
        rintro rfl
        simp [Hp.one] at this
      rw [heap_set_other hne]
      exact e'
  obtain ⟨_, w', hr, s'⟩ := key
  exact WL_step hd hw (by rw [hr]; exact h w' s')
end
end Go.Pg
