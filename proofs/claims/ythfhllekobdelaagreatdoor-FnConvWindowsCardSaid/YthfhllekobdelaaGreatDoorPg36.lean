import Derived.Test.YthfhllekobdelaaGreatDoorPg35
set_option linter.unusedVariables false
namespace Go.Pg
def tC (b : Nat) (s : aO) (k : Int) : HP := ⟨fun _ h => h = Hp.one b (.stringIter ⟨s.toArray⟩ k.toNat), fun _ e => e⟩
def tD (s : aO) (k : Int) : Value := if k < (s.length : Int) then .tuple #[.bool true, .int .i64 k, .int .i32 (bt s k)] else .tuple #[.bool false]
def nk (s : aO) (k : Int) : Int := if k < (s.length : Int) then k + 1 else k
theorem wU {s : aO} {k : Int} (h : k < (s.length : Int)) : nk s k = k + 1 := if_pos h
section
variable {X : Cx} {V : List HP} {σ : cY} {Q : Exit → cY → World → Prop} {ops : Array Oper} {rest : List Oper} {d : Option Nat} {ty : TypeId} {pos : String} {af : Array Edge} {gd : Option (Nat × Bool)}
theorem p6 {C w : World} {V : List HP} (s : St C w V) (i : Nat) {b : Nat} {t : aO} {k : Int} (a : lk V i = tC b t k) : w.heap[b]? = some (.stringIter ⟨t.toArray⟩ k.toNat) := by
  obtain ⟨I, h, p, _, l, _⟩ := s.look i
  rw [a] at p
  exact l b _ (by rw [show h = _ from p]; simp [Hp.one])
theorem rh {T : TypeId} {x : Operand} {t : aO} (j : dok X.n d = true) (hw : eA ops σ ⟨d, .range T x, ty, pos, af, gd⟩ = true) (q : X.P.underlying T = some .string) (u : ev σ x = aJ t)
    (h : ∀ b, TL X ops (tC b t 0 :: V) (fx σ d (.pointer (some ⟨b, 0, none⟩))) rest Q) : TL X ops V σ (⟨d, .range T x, ty, pos, af, gd⟩ :: rest) Q := by
  intro w s
  refine eW j hw ?_
  have m : (execOp (ev σ) ⟨d, .range T x, ty, pos, af, gd⟩).run X.P w = .ok (.value (.pointer (some ⟨w.heap.size, 0, none⟩))) (w.alloc (.stringIter ⟨t.toArray⟩ 0)) := by
    simp [execOp, Instr.range, run_underlying q w, u, aJ, newObj]
    rfl
  rw [m]
  refine h _ _ (St.new s (fun a => a.alloc _) (fun I _ => ⟨_, rfl, ?_, ?_⟩) ?_)
  · intro b o e
    simp only [Hp.one] at e
    split at e
    · rename_i g
      subst g
      rw [← Option.some.inj e]
      show (w.heap.push _)[w.heap.size]? = _
      simp
    · cases e
  · intro b g
    simp only [Hp.one] at g
    split at g
    · rename_i e; exact Nat.le_of_eq e.symm
    · exact absurd rfl g
  · intro b o e
    have i := (Array.getElem?_eq_some_iff.1 e).1
    show (w.heap.push _)[b]? = _
    rw [Array.getElem?_push, if_neg (Nat.ne_of_lt i)]
    exact e
theorem kM {t : aO} {k : Nat} (a : k < t.length) (h : bt t (k : Int) < 128) : Utf8.decode ⟨t.toArray⟩ k = ((bt t (k : Int)).toNat, 1) := by
  have e : ((⟨t.toArray⟩ : ByteArray).get! k).toNat = (bt t (k : Int)).toNat := by
    have : (⟨t.toArray⟩ : ByteArray).get! k = t[k] := by
      show (t.toArray[k]!) = _
      simp [a]
    rw [this]
    simp [bt, ix, a]
  unfold Utf8.decode
  simp only [Nat.add_zero, e]
  rw [if_pos (by omega)]
theorem tF {x : Operand} {b : Nat} {t : aO} {k : Int} (i : Nat) (hd : dok X.n d = true) (hw : eA ops σ ⟨d, .next x true, ty, pos, af, gd⟩ = true)
    (u : lk V i = tC b t k) (U : ev σ x = .pointer (some ⟨b, 0, none⟩)) (T : 0 ≤ k ∧ (k < (t.length : Int) → bt t k < 128))
    (h : TL X ops (qR V i (tC b t (nk t k))) (fx σ d (tD t k)) rest Q) : TL X ops V σ (⟨d, .next x true, ty, pos, af, gd⟩ :: rest) Q := by
  intro w s
  refine eW hd hw ?_
  have F := p6 s i u
  obtain ⟨n, rfl⟩ := Int.eq_ofNat_of_zero_le T.1
  rw [Int.toNat_natCast] at F
  by_cases c : n < t.length
  · have E : (n : Int) < (t.length : Int) := by omega
    have h2 := T.2 E
    have h0 : 0 ≤ bt t (n : Int) := by simp only [bt]; omega
    have D : n < (⟨t.toArray⟩ : ByteArray).size := by simpa [ByteArray.size] using c
    have L : (execOp (ev σ) ⟨d, .next x true, ty, pos, af, gd⟩).run X.P w = .ok (.value (tD t n)) { w with heap := w.heap.setIfInBounds b (.stringIter ⟨t.toArray⟩ (n + 1)) } := by
      simp only [execOp, Instr.next, U, getObj, setObj]
      simp [Sem.run, F, D, kM c h2, tD, E, goInt]
      omega
    rw [L]
    refine h _ (St.turn s i (fun a => ⟨a.os, a.tape, a.output⟩) ?_)
    intro I g p _ _
    rw [u] at p
    have p : g = Hp.one b (.stringIter ⟨t.toArray⟩ (n : Int).toNat) := p
    subst p
    have G := (Array.getElem?_eq_some_iff.1 F).1
    refine ⟨_, rfl, ?_, ?_, ?_⟩
    · intro j o e
      simp only [Hp.one] at e
      split at e
      · rename_i m
        subst m
        rw [← Option.some.inj e, wU E]
        show (w.heap.setIfInBounds j _)[j]? = _
        rw [Array.getElem?_setIfInBounds]
        simp [G]
      · cases e
    · intro j m
      refine .inl ?_
      simp only [Hp.one] at *
      split at m
      · rename_i e; rw [if_pos e]; exact fun h => by cases h
      · exact absurd rfl m
    · intro j o m e
      simp only [Hp.one] at m
      split at m
      · cases m
      · rename_i J
        show (w.heap.setIfInBounds b _)[j]? = _
        rw [Array.getElem?_setIfInBounds, if_neg (fun z => J z.symm)]
        exact e
  · have E : ¬ (n : Int) < (t.length : Int) := by omega
    have D : ¬ n < (⟨t.toArray⟩ : ByteArray).size := by simpa [ByteArray.size] using c
    have L : (execOp (ev σ) ⟨d, .next x true, ty, pos, af, gd⟩).run X.P w = .ok (.value (tD t n)) w := by
      simp only [execOp, Instr.next, U, getObj]
      simp [Sem.run, F, D, tD, E]
    rw [L]
    have e : qR V i (tC b t (nk t n)) = V := by
      rw [show nk t n = (n : Int) from if_neg E, ← u]
      have M : i < V.length := by
        refine Classical.byContradiction fun z => ?_
        have : lk V i = tb := by
          clear u h s
          induction V generalizing i with
          | nil => rfl
          | cons q V ih => cases i with
            | zero => simp at z
            | succ i => exact ih i (by simpa using z)
        rw [this] at u
        have : (tb : HP).p Hp.none Hp.none := rfl
        rw [u] at this
        have this : Hp.none = Hp.one b (.stringIter ⟨t.toArray⟩ (n : Int).toNat) := this
        have := congrFun this b
        simp [Hp.none, Hp.one] at this
      clear u h s
      induction V generalizing i with
      | nil => simp at M
      | cons q V ih => cases i with
        | zero => rfl
        | succ i => simp only [lk, qR, ih i (by simpa using M)]
    rw [e] at h
    exact h _ s
theorem vm {x : Operand} {s : aO} {k : Int} (a : ev σ x = tD s k) : VO X V σ ⟨d, .extract x 0, ty, pos, af, gd⟩ (.bool (decide (k < (s.length : Int)))) := by
  refine gJ ?_
  simp only [pv, a, tD]
  by_cases c : k < (s.length : Int)
  · rw [if_pos c, decide_eq_true c]; rfl
  · rw [if_neg c, decide_eq_false c]; rfl
end
end Go.Pg
