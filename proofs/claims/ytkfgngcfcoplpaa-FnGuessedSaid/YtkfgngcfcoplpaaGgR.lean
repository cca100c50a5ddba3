/- The law FnGuessed of the given program returns true for every input that its row lets in, and leaves its arguments as they were. No condition beyond the row's own. -/
import Derived.Test.YtkfgngcfcoplpaaGeW6
import Derived.Test.YtkfgngcfcoplpaaDW2
import Derived.Test.YtkfgngcfcoplpaaGgRC
import Derived.Test.YtkfgngcfcoplpaaRd
import Derived.Test.YtkfgngcfcoplpaaRows
import Derived.ProofKit
import Derived.SizedLaws
import Derived.OpenShut
import Derived.WideShapes
set_option linter.unusedVariables false
set_option linter.constructorNameAsVariable false
set_option maxRecDepth 100000
namespace Go.Proofs.Ytkfgngcfcoplpaa
open Go Go.Pg
theorem rd5 : Rd Try.prog 5 kT5 := rd_int (by kernel_rfl)
theorem rd22 : Rd Try.prog 22 (Kind.sl 5 kT5) := rd_sl (by kernel_rfl) rd5 (by kernel_rfl) rfl
theorem capS22 {I : Hp} {v : Value} {xs : (List Int)} (h : rdS kT5 I v xs) : Cap22 xs := by
  obtain ⟨A, c, _, _, hm, hc⟩ := h
  exact hm
theorem capR22 {I : Hp} {xs : (List Int)} {cs : List Value} (h : (Kind.sl 5 kT5).rd I xs cs) : Cap22 xs := by
  obtain ⟨v, _, h⟩ := h
  exact capS22 h
section
variable {W : World} {H : Type} {enc : TypeId × Value → H} {v : Value} {d : DataW H} {p : List MemPlace} {base : Nat}
theorem of22 (h : DataW.Trod enc Try.prog W 0 (fun _ => true) true 22 v d p) (hv : Value.okWide Try.prog W .any base 22 v) : ∃ (a : (List Int)) (A0 : Option Addr) (c0 : Nat), v = .slice A0 a.length c0 ∧ rdS kT5 (hpOf W) (.slice A0 a.length c0) a ∧ Cap22 a := by
  obtain ⟨fuel, hx⟩ := h
  obtain ⟨A, n, c, rfl⟩ := WideShapes.okWide_slice (show Try.prog.underlying 22 = some (.slice 5) by kernel_rfl) hv
  obtain ⟨a, w, e, s⟩ := rd22 _ _ _ _ _ _ hx
  injection e with e
  subst e
  obtain ⟨A', c', e, s'⟩ := id s
  injection e with e1 e2 e3
  subst e1 e2 e3
  exact ⟨a, A, c, rfl, s, capS22 s⟩
end
theorem k22 : Try.prog.readableRec 22 = true := by kernel_rfl
theorem l22 : 22 < Try.prog.types.size := of_decide_eq_true (by kernel_rfl)
theorem own : ownKnob Try.prog.godebug = none := by kernel_rfl
set_option maxHeartbeats 800000 in
set_option maxRecDepth 100000 in
theorem law_guessed_r_lifted (os : Os) (started : os.Started) (H : Type) (enc : TypeId × Value → H) :
    ReturnsInHanded {} Try.checked os 3 .any (Rows.fnGuessedSpec.pre6 enc Try.prog Try.f3 Rows.fnGuessedRow.domain false) (Rows.fnGuessedSpec.post enc Try.prog Try.f3 false true false false) := by
  refine returnsInHanded_of_change_sized (C := Try.checked) own started (by kernel_rfl) Try.func3
    (ChangeSpec.witness6 (enc := enc) (C := Try.checked) false ⟨#[], #[.slice none 0 0], []⟩ 8 (by kernel_rfl) (by kernel_rfl) (by kernel_rfl) (by kernel_rfl)) ?_
  intro W base args ds gs before hval hW _ _ _
  have hW' := hW
  have hlt := hW.lt
  obtain ⟨p, q, hA, hV, rfl, hfz, _⟩ := hW
  have hA' : DataW.TrodAll enc Try.prog W 0 (fun _ => true) true [22] args.toList ds p := hA
  obtain ⟨v0, vs0, d0, ds0, p0, q0, ea, rfl, rfl, h0, hr0⟩ := ChangeShapes.trodAll_cons hA'
  obtain ⟨rfl, rfl, rfl⟩ := ChangeShapes.trodAll_nil hr0
  obtain rfl : args = #[v0] := by cases args; simp_all
  obtain ⟨rfl, rfl⟩ := ChangeShapes.trodVars_none hV
  obtain ⟨a0, A0_0, c0_0, rfl, s0_0, hc0⟩ := of22 h0 (hval 0 22 _ (by kernel_rfl) rfl)
  have hcall := Z1i_ok (A2 := A0_0) (N2 := a0.length) (D2 := c0_0) (law_guessed a0) W W [oldH W] (st_old (by
    intro q hq
    simp only [List.mem_cons, List.not_mem_nil, or_false] at hq
    subst hq
    exact ⟨rfl, s0_0⟩))
  refine Calls.mono' hcall ?_
  rintro e W' ⟨_, rfl, s'⟩
  have hb := below_old s'
  have tr : ∀ {t : TypeId} {v : Value} {d : DataW H} {p' : List MemPlace}, Try.prog.readableRec t = true → t < Try.prog.types.size → DataW.Trod enc Try.prog W 0 (fun _ => true) true t v d p' → (∀ x ∈ p', x ∈ (p0 ++ [])) → DataW.Trod enc Try.prog W' 0 (fun b => decide (b < W.heap.size)) true t v d p' := fun k1 k2 h hp => hb.trod (by kernel_rfl) k1 k2 h (fun x hx => hlt x (by simpa using hp x hx))
  refine ⟨_, rfl, _, _, _, [], (p0 ++ []), [], hW', ?_, ?_, rfl, hb.frame _, fun h => by cases h⟩
  · exact ChangeShapes.trodAll_mk1 ⟨1, rfl⟩
  · exact trodAll_cons_mk (tr k22 l22 h0 (by simp +contextual)) ChangeShapes.trodAll_mk0
theorem law_guessed_holds : Rows.FnGuessedSaid :=
  OpenClaim.holds_of_wide 3 Try.f3 rfl rfl rfl rfl rfl rfl rfl ⟨rfl, rfl, rfl, rfl, rfl⟩ rfl rfl rfl rfl rfl (by kernel_rfl) Try.func3 (by kernel_rfl)
    (of_decide_eq_true (by kernel_rfl)) (by unfold Func.isWrapper; first | (rw [if_pos (by decide +kernel)]; kernel_rfl) | (rw [if_neg (by decide +kernel)]; exact ⟨rfl, rfl⟩))
    (fun os started H enc _ => law_guessed_r_lifted os started H enc)
end Go.Proofs.Ytkfgngcfcoplpaa
