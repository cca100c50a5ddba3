/- The law FnExactGuess of the given program returns true for every input that its row lets in, and leaves its arguments as they were. No condition beyond the row's own. -/
import Derived.Test.YtkfgngcfcoplpaaGuW6
import Derived.Test.YtkfgngcfcoplpaaGQ9
import Derived.Test.YtkfgngcfcoplpaaRd
import Derived.Test.YtkfgngcfcoplpaaRows
import Derived.ProofKit
import Derived.SizedLaws
import Derived.OpenShut
import Derived.WideShapes
set_option linter.unusedVariables false
set_option linter.constructorNameAsVariable false
set_option maxRecDepth 100000
namespace Go.Proofs.Ytkfgngcfcoplpaa
open Go Go.Pg
theorem rd3 : Rd Try.prog 3 kT3 := rd_int (by kernel_rfl)
theorem rd29 : Rd Try.prog 29 (Kind.sl 3 kT3) := rd_sl (by kernel_rfl) rd3 (by kernel_rfl) rfl
theorem rd89 : Rd Try.prog 89 kT89 := by
  intro W H enc fuel cs x hx
  obtain ⟨hl, n0, y0, h0⟩ := rd_fld (show fld3 Try.prog 89 0 = some (29, 0, 1) by kernel_rfl) hx
  obtain ⟨a0, r0⟩ := rd29 _ _ _ _ _ _ h0
  obtain ⟨hl, n1, y1, h1⟩ := rd_fld (show fld3 Try.prog 89 1 = some (29, 1, 1) by kernel_rfl) hx
  obtain ⟨a1, r1⟩ := rd29 _ _ _ _ _ _ h1
  have hc : Try.prog.cellsOf 89 = 2 := by kernel_rfl
  rw [hc] at hl
  rw [List.take_of_length_le (by simp; omega)] at r1
  exact ⟨⟨a0, a1⟩, ⟨_, _, show cs = (cs.drop 0).take 1 ++ cs.drop 1 from seg 0 1, r0, r1⟩⟩
theorem rd38 : Rd Try.prog 38 (Kind.sl 89 kT89) := rd_sl (by kernel_rfl) rd89 (by kernel_rfl) rfl
theorem lim_max {n : Nat} (h : n ≤ maxLen) : n ≤ lim := h
theorem capI_of {I : Hp} {xs : List Int} {cs : List Value} (h : kT29.rd I xs cs) : xs.length ≤ lim := by
  obtain ⟨v, _, A, c, _, _, hm, _⟩ := h
  exact lim_max hm
theorem capR_of {I : Hp} {x : Row} {cs : List Value} (h : kT89.rd I x cs) : CapRow x := by
  obtain ⟨c1, c2, _, h1, h2⟩ := h
  exact ⟨capI_of h1, capI_of h2⟩
theorem capL_of {α : Type} {K : Kind α} {p : α → Prop} (hp : ∀ I x cs, K.rd I x cs → p x) {I : Hp} {v : Value} {xs : List α} (h : rdS K I v xs) : CapL p xs := by
  obtain ⟨A, c, _, _, hm, hc⟩ := h
  refine ⟨lim_max hm, fun x hx => ?_⟩
  obtain ⟨j, hj, rfl⟩ := List.getElem_of_mem hx
  obtain ⟨g, o, _, hq⟩ := hc (by omega)
  obtain ⟨cs, h1, _⟩ := hq j _ (List.getElem?_eq_getElem hj)
  exact hp _ _ _ h1
section
variable {W : World} {H : Type} {enc : TypeId × Value → H} {v : Value} {d : DataW H} {p : List MemPlace} {base : Nat}
theorem int_of (h : DataW.Trod enc Try.prog W 0 (fun _ => true) true 3 v d p) (hv : Value.okWide Try.prog W .any base 3 v) : ∃ a : Int, v = iv a := by
  obtain ⟨a, rfl⟩ := WideShapes.okWide_int (show Try.prog.underlying 3 = some (.int .i64) by kernel_rfl) hv
  exact ⟨a, rfl⟩
theorem ints_of (h : DataW.Trod enc Try.prog W 0 (fun _ => true) true 29 v d p) (hv : Value.okWide Try.prog W .any base 29 v) : ∃ (a : List Int) (A : Option Addr) (c : Nat), v = .slice A a.length c ∧ rdS kT3 (hpOf W) (.slice A a.length c) a := by
  obtain ⟨A, n, c, rfl⟩ := WideShapes.okWide_slice (show Try.prog.underlying 29 = some (.slice 3) by kernel_rfl) hv
  obtain ⟨fuel, hx⟩ := h
  obtain ⟨a, w, e, s⟩ := rd29 _ _ _ _ _ _ hx
  injection e with e
  subst e
  obtain ⟨A', c', e, s'⟩ := id s
  injection e with e1 e2 e3
  subst e1 e2 e3
  exact ⟨a, A, c, rfl, s⟩
theorem lm_of (h : DataW.Trod enc Try.prog W 0 (fun _ => true) true 40 v d p) (hv : Value.okWide Try.prog W .any base 40 v) : ∃ (a : Lm) (A : Option Addr) (c : Nat), v = .agg [iv a.Size, .slice A a.Rows.length c].toArray ∧ rdS kT89 (hpOf W) (.slice A a.Rows.length c) a.Rows := by
  obtain ⟨fuel, hx⟩ := h
  obtain ⟨hl, n0, y0, g0⟩ := rd_fld (show fld3 Try.prog 40 0 = some (3, 0, 1) by kernel_rfl) hx
  obtain ⟨_, n1, y1, g1⟩ := rd_fld (show fld3 Try.prog 40 1 = some (38, 1, 1) by kernel_rfl) hx
  have hc : Try.prog.cellsOf 40 = 2 := by kernel_rfl
  rw [hc] at hl
  obtain ⟨u0, u1, rfl⟩ : ∃ u0 u1, v = .agg #[u0, u1] := by
    cases v with
    | agg cs =>
      have hl : cs.toList.length = 2 := hl
      match hcs : cs.toList, hl with
      | [u0, u1], _ => exact ⟨u0, u1, by rw [← hcs]⟩
    | _ => exact absurd hl (by simp [Value.cells])
  replace g0 : DataW.trod enc Try.prog W 0 (fun _ => true) true n0 3 [u0] = some y0 := g0
  replace g1 : DataW.trod enc Try.prog W 0 (fun _ => true) true n1 38 [u1] = some y1 := g1
  obtain ⟨a0, e0⟩ := rd3 _ _ _ _ _ _ g0
  obtain ⟨a1, w1, e1, s1⟩ := rd38 _ _ _ _ _ _ g1
  replace e0 : [u0] = [iv a0] := e0
  injection e0 with e0
  injection e1 with e1
  subst e0 e1
  obtain ⟨A1, c1, rfl, _⟩ := id s1
  exact ⟨⟨a0, a1⟩, A1, c1, rfl, s1⟩
theorem ch_of (h : DataW.Trod enc Try.prog W 0 (fun _ => true) true 41 v d p) : ∃ a : Choice, v = .agg [iv a.Power, iv a.Cut, iv a.Mass].toArray := by
  obtain ⟨fuel, hx⟩ := h
  obtain ⟨hl, n0, y0, g0⟩ := rd_fld (show fld3 Try.prog 41 0 = some (3, 0, 1) by kernel_rfl) hx
  obtain ⟨_, n1, y1, g1⟩ := rd_fld (show fld3 Try.prog 41 1 = some (3, 1, 1) by kernel_rfl) hx
  obtain ⟨_, n2, y2, g2⟩ := rd_fld (show fld3 Try.prog 41 2 = some (3, 2, 1) by kernel_rfl) hx
  have hc : Try.prog.cellsOf 41 = 3 := by kernel_rfl
  rw [hc] at hl
  obtain ⟨u0, u1, u2, rfl⟩ : ∃ u0 u1 u2, v = .agg #[u0, u1, u2] := by
    cases v with
    | agg cs =>
      have hl : cs.toList.length = 3 := hl
      match hcs : cs.toList, hl with
      | [u0, u1, u2], _ => exact ⟨u0, u1, u2, by rw [← hcs]⟩
    | _ => exact absurd hl (by simp [Value.cells])
  replace g0 : DataW.trod enc Try.prog W 0 (fun _ => true) true n0 3 [u0] = some y0 := g0
  replace g1 : DataW.trod enc Try.prog W 0 (fun _ => true) true n1 3 [u1] = some y1 := g1
  replace g2 : DataW.trod enc Try.prog W 0 (fun _ => true) true n2 3 [u2] = some y2 := g2
  obtain ⟨a0, e0⟩ := rd3 _ _ _ _ _ _ g0
  obtain ⟨a1, e1⟩ := rd3 _ _ _ _ _ _ g1
  obtain ⟨a2, e2⟩ := rd3 _ _ _ _ _ _ g2
  replace e0 : [u0] = [iv a0] := e0
  replace e1 : [u1] = [iv a1] := e1
  replace e2 : [u2] = [iv a2] := e2
  injection e0 with e0
  injection e1 with e1
  injection e2 with e2
  subst e0 e1 e2
  exact ⟨⟨a0, a1, a2⟩, rfl⟩
end
theorem k3 : Try.prog.readableRec 3 = true := by kernel_rfl
theorem l3 : 3 < Try.prog.types.size := of_decide_eq_true (by kernel_rfl)
theorem k29 : Try.prog.readableRec 29 = true := by kernel_rfl
theorem l29 : 29 < Try.prog.types.size := of_decide_eq_true (by kernel_rfl)
theorem k40 : Try.prog.readableRec 40 = true := by kernel_rfl
theorem l40 : 40 < Try.prog.types.size := of_decide_eq_true (by kernel_rfl)
theorem k41 : Try.prog.readableRec 41 = true := by kernel_rfl
theorem l41 : 41 < Try.prog.types.size := of_decide_eq_true (by kernel_rfl)
theorem own : ownKnob Try.prog.godebug = none := by kernel_rfl
set_option maxHeartbeats 800000 in
set_option maxRecDepth 100000 in
theorem guess_lifted (os : Os) (started : os.Started) (H : Type) (enc : TypeId × Value → H) :
    ReturnsInHanded {} Try.checked os 4 .any (Rows.fnExactGuessSpec.pre6 enc Try.prog Try.f4 Rows.fnExactGuessRow.domain false) (Rows.fnExactGuessSpec.post enc Try.prog Try.f4 false true false false) := by
  refine returnsInHanded_of_change_sized (C := Try.checked) own started (by kernel_rfl) Try.func4
    (ChangeSpec.witness6 (enc := enc) (C := Try.checked) false ⟨#[], #[.agg #[iv 0, .slice none 0 0], .agg #[iv 0, .slice none 0 0], .agg #[iv 0, iv 0, iv 0], .slice none 0 0, iv 0, iv 0, iv 0], []⟩ 8 (by kernel_rfl) (by kernel_rfl) (by kernel_rfl) (by kernel_rfl)) ?_
  intro W base args ds gs before hval hW _ _ _
  have hW' := hW
  have hlt := hW.lt
  obtain ⟨p, q, hA, hV, rfl, hfz, _⟩ := hW
  have hA' : DataW.TrodAll enc Try.prog W 0 (fun _ => true) true [40, 40, 41, 29, 3, 3, 3] args.toList ds p := hA
  obtain ⟨v0, vs0, d0, ds0, p0, q0, ea, rfl, rfl, h0, hr0⟩ := ChangeShapes.trodAll_cons hA'
  obtain ⟨v1, vs1, d1, ds1, p1, q1, rfl, rfl, rfl, h1, hr1⟩ := ChangeShapes.trodAll_cons hr0
  obtain ⟨v2, vs2, d2, ds2, p2, q2, rfl, rfl, rfl, h2, hr2⟩ := ChangeShapes.trodAll_cons hr1
  obtain ⟨v3, vs3, d3, ds3, p3, q3, rfl, rfl, rfl, h3, hr3⟩ := ChangeShapes.trodAll_cons hr2
  obtain ⟨v4, vs4, d4, ds4, p4, q4, rfl, rfl, rfl, h4, hr4⟩ := ChangeShapes.trodAll_cons hr3
  obtain ⟨v5, vs5, d5, ds5, p5, q5, rfl, rfl, rfl, h5, hr5⟩ := ChangeShapes.trodAll_cons hr4
  obtain ⟨v6, vs6, d6, ds6, p6, q6, rfl, rfl, rfl, h6, hr6⟩ := ChangeShapes.trodAll_cons hr5
  obtain ⟨rfl, rfl, rfl⟩ := ChangeShapes.trodAll_nil hr6
  obtain rfl : args = #[v0, v1, v2, v3, v4, v5, v6] := by cases args; simp_all
  obtain ⟨rfl, rfl⟩ := ChangeShapes.trodVars_none hV
  obtain ⟨m, A0, c0, rfl, s0⟩ := lm_of h0 (hval 0 40 _ (by kernel_rfl) rfl)
  obtain ⟨dr, A1, c1, rfl, s1⟩ := lm_of h1 (hval 1 40 _ (by kernel_rfl) rfl)
  obtain ⟨ch, rfl⟩ := ch_of h2
  obtain ⟨pr, A3, c3, rfl, s3⟩ := ints_of h3 (hval 3 29 _ (by kernel_rfl) rfl)
  obtain ⟨n, rfl⟩ := int_of h4 (hval 4 3 _ (by kernel_rfl) rfl)
  obtain ⟨sd, rfl⟩ := int_of h5 (hval 5 3 _ (by kernel_rfl) rfl)
  obtain ⟨ah, rfl⟩ := int_of h6 (hval 6 3 _ (by kernel_rfl) rfl)
  have hcall := Z1k_ok (A2 := A0) (N2 := m.Rows.length) (D2 := c0) (A4 := A1) (N4 := dr.Rows.length) (D4 := c1) (A7 := A3) (N7 := pr.length) (D7 := c3) (law_guess m dr ch pr n sd ah (capL_of (fun _ _ _ h => capR_of h) s0) (capL_of (fun _ _ _ h => capR_of h) s1)) W W [oldH W] (st_old (by
    intro q hq
    simp only [List.mem_cons, List.not_mem_nil, or_false] at hq
    rcases hq with rfl | rfl | rfl
    · exact ⟨rfl, s0⟩
    · exact ⟨rfl, s1⟩
    · exact ⟨rfl, s3⟩))
  refine Calls.mono' hcall ?_
  rintro e W' ⟨_, rfl, s'⟩
  have hb := below_old s'
  have tr : ∀ {t : TypeId} {v : Value} {d : DataW H} {p' : List MemPlace}, Try.prog.readableRec t = true → t < Try.prog.types.size → DataW.Trod enc Try.prog W 0 (fun _ => true) true t v d p' → (∀ x ∈ p', x ∈ p0 ++ (p1 ++ (p2 ++ (p3 ++ (p4 ++ (p5 ++ (p6 ++ []))))))) → DataW.Trod enc Try.prog W' 0 (fun b => decide (b < W.heap.size)) true t v d p' := fun k1 k2 h hp => hb.trod (by kernel_rfl) k1 k2 h (fun x hx => hlt x (by simpa using hp x hx))
  refine ⟨_, rfl, _, _, _, [], p0 ++ (p1 ++ (p2 ++ (p3 ++ (p4 ++ (p5 ++ (p6 ++ [])))))), [], hW', ?_, ?_, rfl, hb.frame _, fun h => by cases h⟩
  · exact ChangeShapes.trodAll_mk1 ⟨1, rfl⟩
  · exact trodAll_cons_mk (tr k40 l40 h0 (by simp +contextual)) (trodAll_cons_mk (tr k40 l40 h1 (by simp +contextual)) (trodAll_cons_mk (tr k41 l41 h2 (by simp +contextual)) (trodAll_cons_mk (tr k29 l29 h3 (by simp +contextual)) (trodAll_cons_mk (tr k3 l3 h4 (by simp +contextual)) (trodAll_cons_mk (tr k3 l3 h5 (by simp +contextual)) (trodAll_cons_mk (tr k3 l3 h6 (by simp +contextual)) ChangeShapes.trodAll_mk0))))))
theorem guess_holds : Rows.FnExactGuessSaid :=
  OpenClaim.holds_of_wide 4 Try.f4 rfl rfl rfl rfl rfl rfl rfl ⟨rfl, rfl, rfl, rfl, rfl⟩ rfl rfl rfl rfl rfl (by kernel_rfl) Try.func4 (by kernel_rfl)
    (of_decide_eq_true (by kernel_rfl)) (by unfold Func.isWrapper; first | (rw [if_pos (by decide +kernel)]; kernel_rfl) | (rw [if_neg (by decide +kernel)]; exact ⟨rfl, rfl⟩))
    (fun os started H enc _ => guess_lifted os started H enc)
end Go.Proofs.Ytkfgngcfcoplpaa
