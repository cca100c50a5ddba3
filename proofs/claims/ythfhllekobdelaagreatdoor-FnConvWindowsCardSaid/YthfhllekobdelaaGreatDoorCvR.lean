/- The law FnConvWindows of the given program returns true for every input that its row lets in, and leaves its arguments as they were. The card: the two library tables that the row lists are tied to the program's text by the given tie. No condition beyond the row's own. -/
import Derived.Test.YthfhllekobdelaaGreatDoorCvW8
import Derived.Test.YthfhllekobdelaaGreatDoorCW2
import Derived.Test.YthfhllekobdelaaGreatDoorRc
import Derived.Test.YthfhllekobdelaaGreatDoorCards
import Derived.Test.YthfhllekobdelaaGreatDoorTie
import Derived.Deep.DeepHandedRow
import Derived.Lib.LaidTab
import Derived.ProofKit
import Derived.SizedLaws
import Derived.OpenShut
import Derived.WideShapes
import Derived.HandedShaped
import Derived.Shelf.Vars
set_option linter.unusedVariables false
set_option linter.constructorNameAsVariable false
set_option maxRecDepth 100000
namespace Go.Proofs.YthfhllekobdelaaGreatDoor
open Go Go.Pg
theorem rd5 : Rc Tryz.prog 5 eC (fun _ => True) := uO (by kernel_rfl)
theorem xQ : Rc Tryz.prog 22 (Kind.sl 5 eC) xY := Rc.mono (wE (by kernel_rfl) rd5 (by kernel_rfl) rfl) (fun a h => h.1)
section
variable {W : World} {H : Type} {enc : TypeId × Value → H} {v : Value} {d : DataW H} {p : List MemPlace} {base : Nat}
theorem xR (h : DataW.Trod enc Tryz.prog W 0 (fun _ => true) true 22 v d p) (j : Value.okWide Tryz.prog W .any base 22 v) : ∃ (a : (List Int)) (g : Option Addr) (i : Nat), v = .slice g a.length i ∧ o0 eC (jv W) (.slice g a.length i) a ∧ xY a := by
  obtain ⟨fuel, m⟩ := h
  obtain ⟨A, n, c, rfl⟩ := WideShapes.okWide_slice (show Tryz.prog.underlying 22 = some (.slice 5) by kernel_rfl) j
  obtain ⟨a, ⟨w, e, s⟩, b⟩ := xQ _ _ _ _ _ _ m
  injection e with e
  subst e
  obtain ⟨A', q, e, s'⟩ := id s
  injection e with e1 e2 e3
  subst e1 e2 e3
  exact ⟨a, A, c, rfl, s, b⟩
end
theorem k22 : Tryz.prog.readableRec 22 = true := by kernel_rfl
theorem l22 : 22 < Tryz.prog.types.size := of_decide_eq_true (by kernel_rfl)
theorem own : ownKnob Tryz.prog.godebug = none := by kernel_rfl
noncomputable def j8 (a : Os) : World :=
  { World.holding Tryz.prog a ⟨#[], #[], []⟩ with heap := (((World.holding Tryz.prog a ⟨#[], #[], []⟩).heap.modify 5 fun
      | .cells _ t frozen => .cells (#[.int .u8 128, .int .u8 191, .int .u8 160, .int .u8 191, .int .u8 128, .int .u8 159, .int .u8 144, .int .u8 191, .int .u8 128, .int .u8 143, .int .u8 0, .int .u8 0, .int .u8 0, .int .u8 0, .int .u8 0, .int .u8 0, .int .u8 0, .int .u8 0, .int .u8 0, .int .u8 0, .int .u8 0, .int .u8 0, .int .u8 0, .int .u8 0, .int .u8 0, .int .u8 0, .int .u8 0, .int .u8 0, .int .u8 0, .int .u8 0, .int .u8 0, .int .u8 0]) t frozen
      | o => o).modify 4 fun
      | .cells _ t frozen => .cells ((Go.Pinned.utf8FirstZ.map fun n : Nat => Value.int .u8 (Int.ofNat n)).toArray) t frozen
      | o => o) }
theorem qK (a : Os) : laidMet Tryz.prog Rows.fnConvWindowsRow.laid ((j8 a).forCall (fun _ _ => 0) ⟨#[], #[.slice none 0 0], []⟩).memory :=
  laidMet_of_run' 8 (by kernel_rfl) (by kernel_rfl)
theorem sd (b : Os) {H : Type} (enc : TypeId × Value → H) : ∃ ds a, DataW.whole enc Tryz.prog ((j8 b).forCall (fun _ _ => 0) ⟨#[], #[.slice none 0 0], []⟩).memory Tryz.f3.params.toList Rows.fnConvWindowsSpec.vars false (#[.slice none 0 0] : Array Value).toList 8 = some (ds, [], a) :=
  ⟨[.nil], [], by kernel_rfl⟩
set_option maxHeartbeats 800000 in
set_option maxRecDepth 100000 in
theorem ga (D : Os) (a : D.Started) (H : Type) (enc : TypeId × Value → H) (F : Stop.Interp) :
    ReturnsInHanded {} Tryz.checked D 3 .any ((OpenSpec.ofChange Rows.fnConvWindowsSpec).preRow enc Tryz.prog Tryz.f3 Rows.fnConvWindowsRow.domain false Rows.fnConvWindowsRow.laid) (((OpenSpec.ofChange Rows.fnConvWindowsSpec).at F).post enc Tryz.prog Tryz.f3 false true false false) := by
  obtain ⟨a6, I, hx⟩ := sd D enc
  refine returnsInHanded_of_row (C := Tryz.checked) (s := OpenSpec.ofChange Rows.fnConvWindowsSpec) own a (by kernel_rfl) Tryz.func3
    (witness_row_at (enc := enc) (C := Tryz.checked) false (j8 D) #[.slice none 0 0] rfl (by kernel_rfl) (by kernel_rfl) (by kernel_rfl)
      (OpenSpec.preRow_of_cond 8 hx (by kernel_rfl) (fun k hk => by cases hk) (by kernel_rfl) (qK D))) ?_
  intro W base args ds gs G u L _ _ _ hL a1 _
  obtain ⟨m, hm⟩ : ∃ m, W.cell? ⟨0, 0, none⟩ = some (.int .i64 m) := cell_of_shapedOpen_int (P := Tryz.prog) (t := 3) (zero := #[.int .i64 0]) a1 (of_decide_eq_true (by kernel_rfl)) (by kernel_rfl) rfl (by kernel_rfl) (by kernel_rfl) (by kernel_rfl)
  have M := L
  have T := L.lt
  obtain ⟨p, q, hA, hV, rfl, a4, _⟩ := L
  have J : DataW.TrodAll enc Tryz.prog W 0 (fun _ => true) true [22] args.toList ds p := hA
  obtain ⟨v0, a5, d0, a2, p0, q0, ea, rfl, rfl, h0, U⟩ := ChangeShapes.trodAll_cons J
  obtain ⟨rfl, rfl, rfl⟩ := ChangeShapes.trodAll_nil U
  obtain rfl : args = #[v0] := by cases args; simp_all
  obtain ⟨rfl, rfl⟩ := ChangeShapes.trodVars_none hV
  obtain ⟨a0, i, j, rfl, E, a3⟩ := xR h0 (u 0 22 _ (by kernel_rfl) rfl)
  have g := Z1u_ok (A2 := i) (N2 := a0.length) (D2 := j) (mG := m) (jt a0) W W [uP W] (uQ (by
    intro q hq
    simp only [List.mem_cons, List.not_mem_nil, or_false] at hq
    rcases hq with rfl | rfl
    · exact ⟨rfl, E⟩
    · exact wF hm))
  refine Calls.mono' g ?_
  rintro e W' ⟨_, rfl, s'⟩
  have hb := oo s'
  have tr : ∀ {t : TypeId} {v : Value} {d : DataW H} {p' : List MemPlace}, Tryz.prog.readableRec t = true → t < Tryz.prog.types.size → DataW.Trod enc Tryz.prog W 0 (fun _ => true) true t v d p' → (∀ x ∈ p', x ∈ (p0 ++ [])) → DataW.Trod enc Tryz.prog W' 0 (fun b => decide (b < W.heap.size)) true t v d p' := fun k1 k2 h hp => hb.trod (by kernel_rfl) k1 k2 h (fun x hx => T x (by simpa using hp x hx))
  refine ⟨_, rfl, _, _, _, [], (p0 ++ []), [], M, ?_, ?_, rfl, hb.frame _, fun h => by cases h⟩
  · exact ChangeShapes.trodAll_mk1 ⟨1, rfl⟩
  · exact trodAll_cons_mk (tr k22 l22 h0 (by simp +contextual)) ChangeShapes.trodAll_mk0
theorem gW : Rows.FnConvWindowsSaid :=
  OpenClaim.holds_of_cond 3 Tryz.f3 rfl rfl rfl rfl rfl rfl rfl ⟨rfl, rfl, rfl, rfl, rfl⟩ rfl rfl rfl rfl rfl (by kernel_rfl) Tryz.func3 (by kernel_rfl)
    (of_decide_eq_true (by kernel_rfl)) (by unfold Func.isWrapper; first | (rw [if_pos (by decide +kernel)]; kernel_rfl) | (rw [if_neg (by decide +kernel)]; exact ⟨rfl, rfl⟩))
    (fun b a H enc _ F => by rw [OpenClaim.pre_eq_preRow]; exact ga b a H enc F)
theorem gG (f : FuncId) (fn : Func) (g : Tryz.pinned.checked.prog.funcNamed "loop.example/g00033/laws.FnConvWindows" = some f) (a : Tryz.pinned.checked.prog.funcs[f]? = some fn) :
    true = Tryz.pinned.checked.prog.looks [] ∧ ∀ (j : Nat) t, fn.params[j]? = some t → Tryz.pinned.checked.prog.wantsStandIn t = false := by
  obtain rfl : f = 3 := Option.some.inj ((show Tryz.prog.funcNamed "loop.example/g00033/laws.FnConvWindows" = some 3 by kernel_rfl).symm.trans g) |>.symm
  obtain rfl : fn = Tryz.f3 := (Option.some.inj (Tryz.func3.symm.trans a)).symm
  refine ⟨by kernel_rfl, fun j t e => ?_⟩
  rw [Tryz.params3] at e
  have b := Array.mem_of_getElem? e
  simp only [List.mem_toArray, List.mem_cons, List.not_mem_nil, or_false] at b
  rcases b with rfl
  · exact (show Tryz.prog.wantsStandIn 22 = false by kernel_rfl)
theorem law_convwindows_card : Rows.FnConvWindowsCardSaid :=
  Claim7.holds_tied_plain_at .later [] _ _ _ _ gW (fun _ h => by cases h) (by kernel_rfl) (fun _ h => by cases h) fnConvWindows_row_tie rfl ⟨rfl, rfl⟩ (by kernel_rfl) rfl gG (by kernel_rfl)
end Go.Proofs.YthfhllekobdelaaGreatDoor
