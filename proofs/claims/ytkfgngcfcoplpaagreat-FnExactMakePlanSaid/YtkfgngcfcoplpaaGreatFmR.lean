/- The law FnExactMakePlan of the given program returns true for every input that its row lets in, and leaves its argument as it was. No condition beyond the row's own. -/
import Derived.Test.YtkfgngcfcoplpaaGreatMpW7
import Derived.Test.YtkfgngcfcoplpaaGreatPK1
import Derived.Test.YtkfgngcfcoplpaaGreatRd
import Derived.Test.YtkfgngcfcoplpaaGreatRows
import Derived.ProofKit
import Derived.SizedLaws
set_option linter.unusedVariables false
namespace Go.Proofs.YtkfgngcfcoplpaaGreat
open Go Go.Pg
theorem rd3 : Rd Tryz.prog 3 kT3 := rd_int (by kernel_rfl)
theorem rd22 : Rd Tryz.prog 22 (Kind.sl 3 kT3) := rd_sl (by kernel_rfl) rd3 (by kernel_rfl) rfl
theorem rd115 : Rd Tryz.prog 115 kT115 := by
  intro W H enc fuel cs x hx
  obtain ⟨hl, n0, y0, h0⟩ := rd_fld (show fld3 Tryz.prog 115 0 = some (3, 0, 1) by kernel_rfl) hx
  obtain ⟨a0, r0⟩ := rd3 _ _ _ _ _ _ h0
  obtain ⟨hl, n1, y1, h1⟩ := rd_fld (show fld3 Tryz.prog 115 1 = some (22, 1, 1) by kernel_rfl) hx
  obtain ⟨a1, r1⟩ := rd22 _ _ _ _ _ _ h1
  have hc : Tryz.prog.cellsOf 115 = 2 := by kernel_rfl
  rw [hc] at hl
  rw [List.take_of_length_le (by simp; omega)] at r1
  exact ⟨⟨a0, a1⟩, ⟨_, _, show cs = (cs.drop 0).take 1 ++ cs.drop 1 from seg 0 1, r0, r1⟩⟩
theorem rd23 : Rd Tryz.prog 23 (Kind.sl 115 kT115) := rd_sl (by kernel_rfl) rd115 (by kernel_rfl) rfl
theorem rd118 : Rd Tryz.prog 118 kT118 := by
  intro W H enc fuel cs x hx
  obtain ⟨hl, n0, y0, h0⟩ := rd_fld (show fld3 Tryz.prog 118 0 = some (3, 0, 1) by kernel_rfl) hx
  obtain ⟨a0, r0⟩ := rd3 _ _ _ _ _ _ h0
  obtain ⟨hl, n1, y1, h1⟩ := rd_fld (show fld3 Tryz.prog 118 1 = some (3, 1, 1) by kernel_rfl) hx
  obtain ⟨a1, r1⟩ := rd3 _ _ _ _ _ _ h1
  obtain ⟨hl, n2, y2, h2⟩ := rd_fld (show fld3 Tryz.prog 118 2 = some (22, 2, 1) by kernel_rfl) hx
  obtain ⟨a2, r2⟩ := rd22 _ _ _ _ _ _ h2
  have hc : Tryz.prog.cellsOf 118 = 3 := by kernel_rfl
  rw [hc] at hl
  rw [List.take_of_length_le (by simp; omega)] at r2
  exact ⟨⟨a0, a1, a2⟩, ⟨_, _, show cs = (cs.drop 0).take 1 ++ cs.drop 1 from seg 0 1, r0, ⟨_, _, seg 1 1, r1, r2⟩⟩⟩
theorem rd117 : Rd Tryz.prog 117 (Kind.sl 118 kT118) := rd_sl (by kernel_rfl) rd118 (by kernel_rfl) rfl
theorem rd4 : Rd Tryz.prog 4 kT4 := rd_bool (by kernel_rfl)
theorem rd187 : Rd Tryz.prog 187 kT187 := by
  intro W H enc fuel cs x hx
  obtain ⟨hl, n0, y0, h0⟩ := rd_fld (show fld3 Tryz.prog 187 0 = some (3, 0, 1) by kernel_rfl) hx
  obtain ⟨a0, r0⟩ := rd3 _ _ _ _ _ _ h0
  obtain ⟨hl, n1, y1, h1⟩ := rd_fld (show fld3 Tryz.prog 187 1 = some (3, 1, 1) by kernel_rfl) hx
  obtain ⟨a1, r1⟩ := rd3 _ _ _ _ _ _ h1
  obtain ⟨hl, n2, y2, h2⟩ := rd_fld (show fld3 Tryz.prog 187 2 = some (3, 2, 1) by kernel_rfl) hx
  obtain ⟨a2, r2⟩ := rd3 _ _ _ _ _ _ h2
  have hc : Tryz.prog.cellsOf 187 = 3 := by kernel_rfl
  rw [hc] at hl
  rw [List.take_of_length_le (by simp; omega)] at r2
  exact ⟨⟨a0, a1, a2⟩, ⟨_, _, show cs = (cs.drop 0).take 1 ++ cs.drop 1 from seg 0 1, r0, ⟨_, _, seg 1 1, r1, r2⟩⟩⟩
theorem rd119 : Rd Tryz.prog 119 (Kind.sl 187 kT187) := rd_sl (by kernel_rfl) rd187 (by kernel_rfl) rfl
theorem rd121 : Rd Tryz.prog 121 kT121 := by
  intro W H enc fuel cs x hx
  obtain ⟨hl, n0, y0, h0⟩ := rd_fld (show fld3 Tryz.prog 121 0 = some (22, 0, 1) by kernel_rfl) hx
  obtain ⟨a0, r0⟩ := rd22 _ _ _ _ _ _ h0
  obtain ⟨hl, n1, y1, h1⟩ := rd_fld (show fld3 Tryz.prog 121 1 = some (117, 1, 1) by kernel_rfl) hx
  obtain ⟨a1, r1⟩ := rd117 _ _ _ _ _ _ h1
  obtain ⟨hl, n2, y2, h2⟩ := rd_fld (show fld3 Tryz.prog 121 2 = some (118, 2, 3) by kernel_rfl) hx
  obtain ⟨a2, r2⟩ := rd118 _ _ _ _ _ _ h2
  obtain ⟨hl, n3, y3, h3⟩ := rd_fld (show fld3 Tryz.prog 121 3 = some (4, 5, 1) by kernel_rfl) hx
  obtain ⟨a3, r3⟩ := rd4 _ _ _ _ _ _ h3
  obtain ⟨hl, n4, y4, h4⟩ := rd_fld (show fld3 Tryz.prog 121 4 = some (119, 6, 1) by kernel_rfl) hx
  obtain ⟨a4, r4⟩ := rd119 _ _ _ _ _ _ h4
  have hc : Tryz.prog.cellsOf 121 = 7 := by kernel_rfl
  rw [hc] at hl
  rw [List.take_of_length_le (by simp; omega)] at r4
  exact ⟨⟨a0, a1, a2, a3, a4⟩, ⟨_, _, show cs = (cs.drop 0).take 1 ++ cs.drop 1 from seg 0 1, r0, ⟨_, _, seg 1 1, r1, ⟨_, _, seg 2 3, r2, ⟨_, _, seg 5 1, r3, r4⟩⟩⟩⟩⟩
theorem rd24 : Rd Tryz.prog 24 (Kind.sl 121 kT121) := rd_sl (by kernel_rfl) rd121 (by kernel_rfl) rfl
theorem lim_max {n : Nat} (h : n ≤ maxLen) : n ≤ lim := h
theorem capI_of {I : Hp} {xs : List Int} {cs : List Value} (h : kT22.rd I xs cs) : xs.length ≤ lim := by
  obtain ⟨v, _, A, c, _, _, hm, _⟩ := h
  exact lim_max hm
theorem capA_of {I : Hp} {x : Access} {cs : List Value} (h : kT118.rd I x cs) : CapA x := by
  obtain ⟨c1, c2, _, _, c3, c4, _, _, h⟩ := h
  exact capI_of h
theorem capF_of {I : Hp} {x : Fix} {cs : List Value} (h : kT115.rd I x cs) : CapF x := by
  obtain ⟨c1, c2, _, _, h⟩ := h
  exact capI_of h
theorem capL_of {α : Type} {K : Kind α} {p : α → Prop} (hp : ∀ I x cs, K.rd I x cs → p x) {I : Hp} {v : Value} {xs : List α} (h : rdS K I v xs) : CapL p xs := by
  obtain ⟨A, c, _, _, hm, hc⟩ := h
  refine ⟨lim_max hm, fun x hx => ?_⟩
  obtain ⟨j, hj, rfl⟩ := List.getElem_of_mem hx
  obtain ⟨g, o, _, hq⟩ := hc (by omega)
  obtain ⟨cs, h1, _⟩ := hq j _ (List.getElem?_eq_getElem hj)
  exact hp _ _ _ h1
theorem capK_of {I : Hp} {x : Kernel} {cs : List Value} (h : kT121.rd I x cs) : CapK x := by
  obtain ⟨c1, c2, _, h1, c3, c4, _, ⟨v, _, h2⟩, c5, c6, _, h3, c7, c8, _, _, w, _, A, c, _, _, hm, _⟩ := h
  exact ⟨capI_of h1, capL_of (fun _ _ _ h => capA_of h) h2, capA_of h3, lim_max hm⟩
theorem own : ownKnob Tryz.prog.godebug = none := by kernel_rfl
set_option maxHeartbeats 800000 in
set_option maxRecDepth 100000 in
theorem makeplan_lifted (os : Os) (started : os.Started) (H : Type) (enc : TypeId × Value → H) :
    ReturnsInHanded {} Tryz.checked os 4 .any (Rows.fnExactMakePlanSpec.pre6 enc Tryz.prog Tryz.f4 Rows.fnExactMakePlanRow.domain false) (Rows.fnExactMakePlanSpec.post enc Tryz.prog Tryz.f4 false true false false) := by
  refine returnsInHanded_of_change_sized (C := Tryz.checked) own started (by kernel_rfl) Tryz.func4
    (ChangeSpec.witness6 (enc := enc) (C := Tryz.checked) false ⟨#[], #[.agg #[.slice none 0 0, .slice none 0 0, .slice none 0 0, .slice none 0 0, .slice none 0 0]], []⟩ 8 (by kernel_rfl) (by kernel_rfl) (by kernel_rfl) (by kernel_rfl)) ?_
  intro W base args ds gs before hval hW _ _ _
  have hW' := hW
  have hlt := hW.lt
  obtain ⟨p, q, hA, hV, rfl, hfz, _⟩ := hW
  have hA' : DataW.TrodAll enc Tryz.prog W 0 (fun _ => true) true [26] args.toList ds p := hA
  obtain ⟨v0, d0, rfl, rfl, h0⟩ := ChangeShapes.trodAll_one hA'
  obtain ⟨rfl, rfl⟩ := ChangeShapes.trodVars_none hV
  obtain ⟨fuel, hx⟩ := h0
  obtain ⟨hl, n0, y0, g0⟩ := rd_fld (show fld3 Tryz.prog 26 0 = some (22, 0, 1) by kernel_rfl) hx
  obtain ⟨_, n1, y1, g1⟩ := rd_fld (show fld3 Tryz.prog 26 1 = some (22, 1, 1) by kernel_rfl) hx
  obtain ⟨_, n2, y2, g2⟩ := rd_fld (show fld3 Tryz.prog 26 2 = some (23, 2, 1) by kernel_rfl) hx
  obtain ⟨_, n3, y3, g3⟩ := rd_fld (show fld3 Tryz.prog 26 3 = some (24, 3, 1) by kernel_rfl) hx
  obtain ⟨_, n4, y4, g4⟩ := rd_fld (show fld3 Tryz.prog 26 4 = some (22, 4, 1) by kernel_rfl) hx
  have hc : Tryz.prog.cellsOf 26 = 5 := by kernel_rfl
  rw [hc] at hl
  obtain ⟨u0, u1, u2, u3, u4, rfl⟩ : ∃ u0 u1 u2 u3 u4, v0 = .agg #[u0, u1, u2, u3, u4] := by
    cases v0 with
    | agg cs =>
      have hl : cs.toList.length = 5 := hl
      match hcs : cs.toList, hl with
      | [u0, u1, u2, u3, u4], _ => exact ⟨u0, u1, u2, u3, u4, by rw [← hcs]⟩
    | _ => exact absurd hl (by simp [Value.cells])
  replace g0 : DataW.trod enc Tryz.prog W 0 (fun _ => true) true n0 22 [u0] = some y0 := g0
  replace g1 : DataW.trod enc Tryz.prog W 0 (fun _ => true) true n1 22 [u1] = some y1 := g1
  replace g2 : DataW.trod enc Tryz.prog W 0 (fun _ => true) true n2 23 [u2] = some y2 := g2
  replace g3 : DataW.trod enc Tryz.prog W 0 (fun _ => true) true n3 24 [u3] = some y3 := g3
  replace g4 : DataW.trod enc Tryz.prog W 0 (fun _ => true) true n4 22 [u4] = some y4 := g4
  obtain ⟨a0, w0, e0, s0⟩ := rd22 _ _ _ _ _ _ g0
  obtain ⟨a1, w1, e1, s1⟩ := rd22 _ _ _ _ _ _ g1
  obtain ⟨a2, w2, e2, s2⟩ := rd23 _ _ _ _ _ _ g2
  obtain ⟨a3, w3, e3, s3⟩ := rd24 _ _ _ _ _ _ g3
  obtain ⟨a4, w4, e4, s4⟩ := rd22 _ _ _ _ _ _ g4
  injection e0 with e0
  injection e1 with e1
  injection e2 with e2
  injection e3 with e3
  injection e4 with e4
  subst e0 e1 e2 e3 e4
  have hcap : CapN ⟨a0, a1, a2, a3, a4⟩ := by
    obtain ⟨_, _, _, _, m0, _⟩ := s0
    obtain ⟨_, _, _, _, m1, _⟩ := s1
    obtain ⟨_, _, _, _, m4, _⟩ := s4
    exact ⟨lim_max m0, lim_max m1, capL_of (fun _ _ _ h => capF_of h) s2, capL_of (fun _ _ _ h => capK_of h) s3, lim_max m4⟩
  obtain ⟨A0, c0, rfl, _⟩ := id s0
  obtain ⟨A1, c1, rfl, _⟩ := id s1
  obtain ⟨A2, c2, rfl, _⟩ := id s2
  obtain ⟨A3, c3, rfl, _⟩ := id s3
  obtain ⟨A4, c4, rfl, _⟩ := id s4
  have hcall := Z21_ok (A2 := A0) (N2 := a0.length) (D2 := c0) (A3 := A1) (N3 := a1.length) (D3 := c1) (A4 := A2) (N4 := a2.length) (D4 := c2) (A5 := A3) (N5 := a3.length) (D5 := c3) (A6 := A4) (N6 := a4.length) (D6 := c4) (law_makeplan _ hcap) W W [oldH W] (st_old (by
    intro q hq
    simp only [List.mem_cons, List.not_mem_nil, or_false] at hq
    rcases hq with rfl | rfl | rfl | rfl | rfl
    · exact ⟨rfl, s0⟩
    · exact ⟨rfl, s1⟩
    · exact ⟨rfl, s2⟩
    · exact ⟨rfl, s3⟩
    · exact ⟨rfl, s4⟩))
  refine Calls.mono' hcall ?_
  rintro e W' ⟨_, rfl, s'⟩
  have hb := below_old s'
  refine ⟨_, rfl, _, _, _, [], p, [], hW', ?_, ?_, rfl, hb.frame _, fun h => by cases h⟩
  · exact ChangeShapes.trodAll_mk1 ⟨1, rfl⟩
  · exact ChangeShapes.trodAll_mk1 (hb.trod (by kernel_rfl) (by kernel_rfl) (of_decide_eq_true (by kernel_rfl)) ⟨fuel, hx⟩ (fun x hx => hlt x (by simpa using hx)))
theorem makeplan_holds : Rows.FnExactMakePlanSaid :=
  OpenClaim.holds_of_wide 4 Tryz.f4 rfl rfl rfl rfl rfl rfl rfl ⟨rfl, rfl, rfl, rfl, rfl⟩ rfl rfl rfl rfl rfl (by kernel_rfl) Tryz.func4 (by kernel_rfl)
    (of_decide_eq_true (by kernel_rfl)) (by unfold Func.isWrapper; first | (rw [if_pos (by decide +kernel)]; kernel_rfl) | (rw [if_neg (by decide +kernel)]; exact ⟨rfl, rfl⟩))
    (fun os started H enc _ => makeplan_lifted os started H enc)
end Go.Proofs.YtkfgngcfcoplpaaGreat
