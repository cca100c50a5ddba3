/- The law FnExactCompile of the given program returns true for every input that its row lets in, and leaves its argument as it was. No condition beyond the row's own. -/
import Derived.Test.YtbdchgofcejiiaaFaW7
import Derived.Test.YtbdchgofcejiiaaPC4
import Derived.Test.YtbdchgofcejiiaaRd
import Derived.Test.YtbdchgofcejiiaaRows
import Derived.ProofKit
import Derived.SizedLaws
set_option linter.unusedVariables false
namespace Go.Proofs.Ytbdchgofcejiiaa
open Go Go.Pg
theorem rd3 : Rd Try.prog 3 kT3 := rd_int (by kernel_rfl)
theorem rd29 : Rd Try.prog 29 (Kind.sl 3 kT3) := rd_sl (by kernel_rfl) rd3 (by kernel_rfl) rfl
theorem rd152 : Rd Try.prog 152 kT152 := by
  intro W H enc fuel cs x hx
  obtain ⟨hl, n0, y0, h0⟩ := rd_fld (show fld3 Try.prog 152 0 = some (3, 0, 1) by kernel_rfl) hx
  obtain ⟨a0, r0⟩ := rd3 _ _ _ _ _ _ h0
  obtain ⟨hl, n1, y1, h1⟩ := rd_fld (show fld3 Try.prog 152 1 = some (29, 1, 1) by kernel_rfl) hx
  obtain ⟨a1, r1⟩ := rd29 _ _ _ _ _ _ h1
  have hc : Try.prog.cellsOf 152 = 2 := by kernel_rfl
  rw [hc] at hl
  rw [List.take_of_length_le (by simp; omega)] at r1
  exact ⟨⟨a0, a1⟩, ⟨_, _, show cs = (cs.drop 0).take 1 ++ cs.drop 1 from seg 0 1, r0, r1⟩⟩
theorem rd50 : Rd Try.prog 50 (Kind.sl 152 kT152) := rd_sl (by kernel_rfl) rd152 (by kernel_rfl) rfl
theorem rd155 : Rd Try.prog 155 kT155 := by
  intro W H enc fuel cs x hx
  obtain ⟨hl, n0, y0, h0⟩ := rd_fld (show fld3 Try.prog 155 0 = some (3, 0, 1) by kernel_rfl) hx
  obtain ⟨a0, r0⟩ := rd3 _ _ _ _ _ _ h0
  obtain ⟨hl, n1, y1, h1⟩ := rd_fld (show fld3 Try.prog 155 1 = some (3, 1, 1) by kernel_rfl) hx
  obtain ⟨a1, r1⟩ := rd3 _ _ _ _ _ _ h1
  obtain ⟨hl, n2, y2, h2⟩ := rd_fld (show fld3 Try.prog 155 2 = some (29, 2, 1) by kernel_rfl) hx
  obtain ⟨a2, r2⟩ := rd29 _ _ _ _ _ _ h2
  have hc : Try.prog.cellsOf 155 = 3 := by kernel_rfl
  rw [hc] at hl
  rw [List.take_of_length_le (by simp; omega)] at r2
  exact ⟨⟨a0, a1, a2⟩, ⟨_, _, show cs = (cs.drop 0).take 1 ++ cs.drop 1 from seg 0 1, r0, ⟨_, _, seg 1 1, r1, r2⟩⟩⟩
theorem rd154 : Rd Try.prog 154 (Kind.sl 155 kT155) := rd_sl (by kernel_rfl) rd155 (by kernel_rfl) rfl
theorem rd4 : Rd Try.prog 4 kT4 := rd_bool (by kernel_rfl)
theorem rd239 : Rd Try.prog 239 kT239 := by
  intro W H enc fuel cs x hx
  obtain ⟨hl, n0, y0, h0⟩ := rd_fld (show fld3 Try.prog 239 0 = some (3, 0, 1) by kernel_rfl) hx
  obtain ⟨a0, r0⟩ := rd3 _ _ _ _ _ _ h0
  obtain ⟨hl, n1, y1, h1⟩ := rd_fld (show fld3 Try.prog 239 1 = some (3, 1, 1) by kernel_rfl) hx
  obtain ⟨a1, r1⟩ := rd3 _ _ _ _ _ _ h1
  obtain ⟨hl, n2, y2, h2⟩ := rd_fld (show fld3 Try.prog 239 2 = some (3, 2, 1) by kernel_rfl) hx
  obtain ⟨a2, r2⟩ := rd3 _ _ _ _ _ _ h2
  have hc : Try.prog.cellsOf 239 = 3 := by kernel_rfl
  rw [hc] at hl
  rw [List.take_of_length_le (by simp; omega)] at r2
  exact ⟨⟨a0, a1, a2⟩, ⟨_, _, show cs = (cs.drop 0).take 1 ++ cs.drop 1 from seg 0 1, r0, ⟨_, _, seg 1 1, r1, r2⟩⟩⟩
theorem rd156 : Rd Try.prog 156 (Kind.sl 239 kT239) := rd_sl (by kernel_rfl) rd239 (by kernel_rfl) rfl
theorem rd158 : Rd Try.prog 158 kT158 := by
  intro W H enc fuel cs x hx
  obtain ⟨hl, n0, y0, h0⟩ := rd_fld (show fld3 Try.prog 158 0 = some (29, 0, 1) by kernel_rfl) hx
  obtain ⟨a0, r0⟩ := rd29 _ _ _ _ _ _ h0
  obtain ⟨hl, n1, y1, h1⟩ := rd_fld (show fld3 Try.prog 158 1 = some (154, 1, 1) by kernel_rfl) hx
  obtain ⟨a1, r1⟩ := rd154 _ _ _ _ _ _ h1
  obtain ⟨hl, n2, y2, h2⟩ := rd_fld (show fld3 Try.prog 158 2 = some (155, 2, 3) by kernel_rfl) hx
  obtain ⟨a2, r2⟩ := rd155 _ _ _ _ _ _ h2
  obtain ⟨hl, n3, y3, h3⟩ := rd_fld (show fld3 Try.prog 158 3 = some (4, 5, 1) by kernel_rfl) hx
  obtain ⟨a3, r3⟩ := rd4 _ _ _ _ _ _ h3
  obtain ⟨hl, n4, y4, h4⟩ := rd_fld (show fld3 Try.prog 158 4 = some (156, 6, 1) by kernel_rfl) hx
  obtain ⟨a4, r4⟩ := rd156 _ _ _ _ _ _ h4
  have hc : Try.prog.cellsOf 158 = 7 := by kernel_rfl
  rw [hc] at hl
  rw [List.take_of_length_le (by simp; omega)] at r4
  exact ⟨⟨a0, a1, a2, a3, a4⟩, ⟨_, _, show cs = (cs.drop 0).take 1 ++ cs.drop 1 from seg 0 1, r0, ⟨_, _, seg 1 1, r1, ⟨_, _, seg 2 3, r2, ⟨_, _, seg 5 1, r3, r4⟩⟩⟩⟩⟩
theorem rd51 : Rd Try.prog 51 (Kind.sl 158 kT158) := rd_sl (by kernel_rfl) rd158 (by kernel_rfl) rfl
theorem lim_max {n : Nat} (h : n ≤ maxLen) : n ≤ lim := h
theorem capI_of {I : Hp} {xs : List Int} {cs : List Value} (h : kT29.rd I xs cs) : xs.length ≤ lim := by
  obtain ⟨v, _, A, c, _, _, hm, _⟩ := h
  exact lim_max hm
theorem capA_of {I : Hp} {x : Access} {cs : List Value} (h : kT155.rd I x cs) : CapA x := by
  obtain ⟨c1, c2, _, _, c3, c4, _, _, h⟩ := h
  exact capI_of h
theorem capF_of {I : Hp} {x : Fix} {cs : List Value} (h : kT152.rd I x cs) : CapF x := by
  obtain ⟨c1, c2, _, _, h⟩ := h
  exact capI_of h
theorem capL_of {α : Type} {K : Kind α} {p : α → Prop} (hp : ∀ I x cs, K.rd I x cs → p x) {I : Hp} {v : Value} {xs : List α} (h : rdS K I v xs) : CapL p xs := by
  obtain ⟨A, c, _, _, hm, hc⟩ := h
  refine ⟨lim_max hm, fun x hx => ?_⟩
  obtain ⟨j, hj, rfl⟩ := List.getElem_of_mem hx
  obtain ⟨g, o, _, hq⟩ := hc (by omega)
  obtain ⟨cs, h1, _⟩ := hq j _ (List.getElem?_eq_getElem hj)
  exact hp _ _ _ h1
theorem capK_of {I : Hp} {x : Kernel} {cs : List Value} (h : kT158.rd I x cs) : CapK x := by
  obtain ⟨c1, c2, _, h1, c3, c4, _, ⟨v, _, h2⟩, c5, c6, _, h3, c7, c8, _, _, w, _, A, c, _, _, hm, _⟩ := h
  exact ⟨capI_of h1, capL_of (fun _ _ _ h => capA_of h) h2, capA_of h3, lim_max hm⟩
theorem own : ownKnob Try.prog.godebug = none := by kernel_rfl
set_option maxHeartbeats 800000 in
set_option maxRecDepth 100000 in
theorem compile_lifted (os : Os) (started : os.Started) (H : Type) (enc : TypeId × Value → H) :
    ReturnsInHanded {} Try.checked os 6 .any (Rows.fnExactCompileSpec.pre6 enc Try.prog Try.f6 Rows.fnExactCompileRow.domain false) (Rows.fnExactCompileSpec.post enc Try.prog Try.f6 false true false false) := by
  refine returnsInHanded_of_change_sized (C := Try.checked) own started (by kernel_rfl) Try.func6
    (ChangeSpec.witness6 (enc := enc) (C := Try.checked) false ⟨#[], #[.agg #[.slice none 0 0, .slice none 0 0, .slice none 0 0, .slice none 0 0, .slice none 0 0, .slice none 0 0, .int .i64 0]], []⟩ 8 (by kernel_rfl) (by kernel_rfl) (by kernel_rfl) (by kernel_rfl)) ?_
  intro W base args ds gs before hval hW _ _ _
  have hW' := hW
  have hlt := hW.lt
  obtain ⟨p, q, hA, hV, rfl, hfz, _⟩ := hW
  have hA' : DataW.TrodAll enc Try.prog W 0 (fun _ => true) true [65] args.toList ds p := hA
  obtain ⟨v0, d0, rfl, rfl, h0⟩ := ChangeShapes.trodAll_one hA'
  obtain ⟨rfl, rfl⟩ := ChangeShapes.trodVars_none hV
  obtain ⟨fuel, hx⟩ := h0
  obtain ⟨hl, nN, yN, gN⟩ := rd_fld (show fld3 Try.prog 65 0 = some (53, 0, 5) by kernel_rfl) hx
  obtain ⟨_, n5, y5, g5⟩ := rd_fld (show fld3 Try.prog 65 1 = some (29, 5, 1) by kernel_rfl) hx
  obtain ⟨_, n6, y6, g6⟩ := rd_fld (show fld3 Try.prog 65 2 = some (3, 6, 1) by kernel_rfl) hx
  have hc : Try.prog.cellsOf 65 = 7 := by kernel_rfl
  rw [hc] at hl
  obtain ⟨u0, u1, u2, u3, u4, u5, u6, rfl⟩ : ∃ u0 u1 u2 u3 u4 u5 u6, v0 = .agg #[u0, u1, u2, u3, u4, u5, u6] := by
    cases v0 with
    | agg cs =>
      have hl : cs.toList.length = 7 := hl
      match hcs : cs.toList, hl with
      | [u0, u1, u2, u3, u4, u5, u6], _ => exact ⟨u0, u1, u2, u3, u4, u5, u6, by rw [← hcs]⟩
    | _ => exact absurd hl (by simp [Value.cells])
  replace gN : DataW.trod enc Try.prog W 0 (fun _ => true) true nN 53 [u0, u1, u2, u3, u4] = some yN := gN
  obtain ⟨_, n0, y0, g0⟩ := rd_fld (show fld3 Try.prog 53 0 = some (29, 0, 1) by kernel_rfl) gN
  obtain ⟨_, n1, y1, g1⟩ := rd_fld (show fld3 Try.prog 53 1 = some (29, 1, 1) by kernel_rfl) gN
  obtain ⟨_, n2, y2, g2⟩ := rd_fld (show fld3 Try.prog 53 2 = some (50, 2, 1) by kernel_rfl) gN
  obtain ⟨_, n3, y3, g3⟩ := rd_fld (show fld3 Try.prog 53 3 = some (51, 3, 1) by kernel_rfl) gN
  obtain ⟨_, n4, y4, g4⟩ := rd_fld (show fld3 Try.prog 53 4 = some (29, 4, 1) by kernel_rfl) gN
  replace g0 : DataW.trod enc Try.prog W 0 (fun _ => true) true n0 29 [u0] = some y0 := g0
  replace g1 : DataW.trod enc Try.prog W 0 (fun _ => true) true n1 29 [u1] = some y1 := g1
  replace g2 : DataW.trod enc Try.prog W 0 (fun _ => true) true n2 50 [u2] = some y2 := g2
  replace g3 : DataW.trod enc Try.prog W 0 (fun _ => true) true n3 51 [u3] = some y3 := g3
  replace g4 : DataW.trod enc Try.prog W 0 (fun _ => true) true n4 29 [u4] = some y4 := g4
  replace g5 : DataW.trod enc Try.prog W 0 (fun _ => true) true n5 29 [u5] = some y5 := g5
  replace g6 : DataW.trod enc Try.prog W 0 (fun _ => true) true n6 3 [u6] = some y6 := g6
  obtain ⟨a0, w0, e0, s0⟩ := rd29 _ _ _ _ _ _ g0
  obtain ⟨a1, w1, e1, s1⟩ := rd29 _ _ _ _ _ _ g1
  obtain ⟨a2, w2, e2, s2⟩ := rd50 _ _ _ _ _ _ g2
  obtain ⟨a3, w3, e3, s3⟩ := rd51 _ _ _ _ _ _ g3
  obtain ⟨a4, w4, e4, s4⟩ := rd29 _ _ _ _ _ _ g4
  obtain ⟨a5, w5, e5, s5⟩ := rd29 _ _ _ _ _ _ g5
  obtain ⟨a6, e6⟩ := rd3 _ _ _ _ _ _ g6
  replace e6 : [u6] = [Value.int .i64 a6] := e6
  injection e0 with e0
  injection e1 with e1
  injection e2 with e2
  injection e3 with e3
  injection e4 with e4
  injection e5 with e5
  injection e6 with e6
  subst e0 e1 e2 e3 e4 e5 e6
  have hcap : CapN ⟨a0, a1, a2, a3, a4⟩ := by
    obtain ⟨_, _, _, _, m0, _⟩ := s0
    obtain ⟨_, _, _, _, m1, _⟩ := s1
    obtain ⟨_, _, _, _, m4, _⟩ := s4
    exact ⟨lim_max m0, lim_max m1, capL_of (fun _ _ _ h => capF_of h) s2, capL_of (fun _ _ _ h => capK_of h) s3, lim_max m4⟩
  have hcap5 : a5.length ≤ lim := by
    obtain ⟨_, _, _, _, m5, _⟩ := s5
    exact lim_max m5
  obtain ⟨A0, c0, rfl, _⟩ := id s0
  obtain ⟨A1, c1, rfl, _⟩ := id s1
  obtain ⟨A2, c2, rfl, _⟩ := id s2
  obtain ⟨A3, c3, rfl, _⟩ := id s3
  obtain ⟨A4, c4, rfl, _⟩ := id s4
  obtain ⟨A5, c5, rfl, _⟩ := id s5
  have hcall := laws_FnExactCompile_ok (aP1 := ⟨⟨a0, a1, a2, a3, a4⟩, a5, a6⟩) (A2 := A0) (N2 := a0.length) (D2 := c0) (A3 := A1) (N3 := a1.length) (D3 := c1) (A4 := A2) (N4 := a2.length) (D4 := c2) (A5 := A3) (N5 := a3.length) (D5 := c3) (A6 := A4) (N6 := a4.length) (D6 := c4) (A7 := A5) (N7 := a5.length) (D7 := c5) (law_compile _ hcap hcap5) W W [oldH W] (st_old (by
    intro q hq
    simp only [List.mem_cons, List.not_mem_nil, or_false] at hq
    rcases hq with rfl | rfl | rfl | rfl | rfl | rfl
    · exact ⟨rfl, s0⟩
    · exact ⟨rfl, s1⟩
    · exact ⟨rfl, s2⟩
    · exact ⟨rfl, s3⟩
    · exact ⟨rfl, s4⟩
    · exact ⟨rfl, s5⟩))
  refine Calls.mono' hcall ?_
  rintro e W' ⟨_, rfl, s'⟩
  have hb := below_old s'
  refine ⟨_, rfl, _, _, _, [], p, [], hW', ?_, ?_, rfl, hb.frame _, fun h => by cases h⟩
  · exact ChangeShapes.trodAll_mk1 ⟨1, rfl⟩
  · exact ChangeShapes.trodAll_mk1 (hb.trod (by kernel_rfl) (by kernel_rfl) (of_decide_eq_true (by kernel_rfl)) ⟨fuel, hx⟩ (fun x hx => hlt x (by simpa using hx)))
theorem compile_holds : Rows.FnExactCompileSaid :=
  OpenClaim.holds_of_wide 6 Try.f6 rfl rfl rfl rfl rfl rfl rfl ⟨rfl, rfl, rfl, rfl, rfl⟩ rfl rfl rfl rfl rfl (by kernel_rfl) Try.func6 (by kernel_rfl)
    (of_decide_eq_true (by kernel_rfl)) (by unfold Func.isWrapper; first | (rw [if_pos (by decide +kernel)]; kernel_rfl) | (rw [if_neg (by decide +kernel)]; exact ⟨rfl, rfl⟩))
    (fun os started H enc _ => compile_lifted os started H enc)
end Go.Proofs.Ytbdchgofcejiiaa
