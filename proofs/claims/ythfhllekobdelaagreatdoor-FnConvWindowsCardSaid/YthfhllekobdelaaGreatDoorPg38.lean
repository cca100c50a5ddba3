import Derived.Test.YthfhllekobdelaaGreatDoorPg37
set_option linter.unusedVariables false
set_option linter.unusedSimpArgs false
namespace Go.Pg
def sj {A : Type} (X : Cx) (fn : Func) (V0 : List HP) (a : A → Value × List HP) : Exit → cY → World → Prop
  | .ret, σ, w => ∃ E, St X.C w (E ++ V0) ∧ ∀ V w, St X.C w (E ++ V) → ∃ v, (gI fn σ).run X.P w = .ok v w ∧ sg X V a v w
  | _, _, _ => False
theorem tJ {A : Type} {X : Cx} {V V0 : List HP} {σ : cY} {a : A → Value × List HP} {fn : Func} (n : Nat) (h : ∀ V0, TQ X (tk n V ++ V0) σ .ret (mm X.P fn (sg X V0 a))) (b : tk n V ++ V0 = V := by exact rfl) : TQ X V σ .ret (sj X fn V0 a) := by
  intro w s
  rw [← b] at s
  exact ⟨_, s, fun V' e s' => h V' e s'⟩
theorem p8 {A B H : Type} {P : Program} {n : Nat} {fn : Func} {C : World} {V : List HP} {i : A → Value × List HP} {Vc : List HP} {σ : cY} {Q : Exit → cY → World → Prop} {id : Nat} {g : Operand} {ps : Array Tmp} {m body rest : Code} {I : Nat} {F : List Value}
    (Wc : List HP) (E E' : Nat → Loop → HP) (Pre' W3 : List HP) (cp : B → List HP) (Wd : H → List HP)
    (hV : Vc = Wc ++ V) (hg : ev σ g = .func (.func I) #[] F.toArray) (a0 : bH P I = true)
    (a1 : ∀ V w l b, St C w (qL l b :: (Wc ++ V)) → St C w (E l b :: (Pre' ++ (W3 ++ V))))
    (u : ∀ l b, Rec b ps m body n σ → FnOk P I (.func (.yield l) #[] #[] :: F) (E l b :: Pre') (fun x : B => (.tuple [].toArray, E' l b :: cp x)))
    (M : ∀ V w l b x, St C w (E' l b :: (cp x ++ (W3 ++ V))) → ∃ y, St C w (qL l b :: (Wd y ++ V)))
    (hk : ∀ y D V, TC ⟨P, ⟨n, [mD D], fun _ _ => False⟩, C⟩ (Wd y ++ V) σ rest (sj ⟨P, ⟨n, [mD D], fun _ _ => False⟩, C⟩ fn V i)) :
    TQ ⟨P, ⟨n, [], uS P fn C V i⟩, C⟩ Vc σ .normal (fK (Rg ⟨P, ⟨n, [], uS P fn C V i⟩, C⟩ (.block id (.rangeFunc g ps m body)) rest (mm P fn (sg ⟨P, ⟨n, [], uS P fn C V i⟩, C⟩ V i))) Q) := by
  intro w s a h1 h2 h3
  subst hV
  refine wp_block ((wpIn_wide (n := 0)).1 (wpIn_rangeFunc ?_))
  intro J _
  obtain ⟨b, T⟩ : ∃ b : Loop, b = { state := .ready, pending := none, fn := J, tmps := a.tmps, params := ps, assign := m, body := body, defers := w.heap.size } := ⟨_, rfl⟩
  have j : Rec b ps m body n σ := by
    subst T
    exact ⟨rfl, rfl, rfl, rfl, rfl, h1, h3⟩
  have s1 := St.dn (St.newOb s (.deferred (some [])))
  have s2 := St.newOb s1 (.loop b)
  rw [World.size_alloc] at s2
  obtain ⟨G, L⟩ : ∃ G, (w.alloc (.deferred (some []))).alloc (.loop b) = G := ⟨_, rfl⟩
  rw [L] at s2
  refine ⟨w.heap.size + 1, [mD w.heap.size], G, { target := .fn (.func I) F.toArray, args := #[.func (.yield (w.heap.size + 1)) #[] #[]] }, G, I,
    #[.func (.yield (w.heap.size + 1)) #[] #[]] ++ F.toArray, G, ?_, ?_, fun _ _ => trivial, ?_, fun h => (by cases h), ?_⟩
  · rw [← L, T]; exact run_enterLoop_outer _ _ _ _ _
  · have : a.eval g = .func (.func I) #[] F.toArray := by rw [gH, h3]; exact hg
    simp only [resolve, this]
    simp [go_sem]
  · simp [invoke, go_sem, gq a0]
  · refine callsIn_wide.2 ?_
    have hc := u (w.heap.size + 1) b j C G _ (a1 _ _ _ _ s2)
    have e : (Value.func (.yield (w.heap.size + 1)) #[] #[] :: F).toArray = #[Value.func (.yield (w.heap.size + 1)) #[] #[]] ++ F.toArray := by
      apply Array.ext'; simp
    rw [e] at hc
    refine Calls.mono' hc ?_
    rintro e w2 ⟨x, rfl, s3⟩
    obtain ⟨y, s4⟩ := M _ _ _ _ x s3
    have hl := hT s4 0 rfl
    refine ⟨none, w2.putObj (w.heap.size + 1) (.loop { b with state := .exhausted }), ?_, ?_⟩
    · have := run_endLoop (P := P) hl (by rw [j.st]; simp)
      exact this.trans (by rw [j.pe])
    · have s5 := (s4.putObj (o' := .loop { b with state := .exhausted })).rm 0
      refine wp_mono (hk y w.heap.size _ _ s5 _ h1 (by rw [h2]; rfl) h3) ?_
      rintro e a5 w5 q
      rcases q with ⟨q1, q2, q3⟩ | ⟨_, q⟩
      · cases e with
        | ret =>
          obtain ⟨E0, U, hE⟩ := q3
          refine .inr ⟨rfl, ?_⟩
          have U := St.up U
          show LeavesInM Fence.wide 0 P fn a5.tmps _ a5.defers .returning w5
          rw [q2]
          obtain ⟨v, hr, x, rfl, s7⟩ := hE _ _ (St.dn (U.putObj (o' := .deferred none)))
          exact ⟨by simp, .inl ⟨_, _, rfl, run_takeDeferred (hT U 0 rfl), _, hr, x, rfl, (St.up s7).rm 0⟩⟩
        | _ => exact q3.elim
      · exact q.elim
end Go.Pg
