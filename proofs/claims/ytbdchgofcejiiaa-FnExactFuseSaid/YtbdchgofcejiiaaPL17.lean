import Derived.Test.YtbdchgofcejiiaaPL16
set_option linter.unusedVariables false
set_option linter.unusedSimpArgs false
namespace Go.Proofs.Ytbdchgofcejiiaa
open Go Go.Pg
abbrev FS := (List Int) × (List Int) × (List Fix) × (List Kernel) × (List Int)
def fld (l : Nest) : FS := (l.Sizes, l.Ins, l.Fixed, l.Kernels, l.Outs)
noncomputable def specF (s : (List Int) × (List Int) × (List Fix) × (List Kernel) × (List Int) × Int) := spec_Fuse_L1 s.1 s.2.1 s.2.2.1 s.2.2.2.1 s.2.2.2.2.1 s.2.2.2.2.2
noncomputable def implF (s : FS) := impl_Fuse_L1 s.1 s.2.1 s.2.2.1 s.2.2.2.1 s.2.2.2.2
def at_ (l : Nest) (i : Int) : (List Int) × (List Int) × (List Fix) × (List Kernel) × (List Int) × Int := (l.Sizes, l.Ins, l.Fixed, l.Kernels, l.Outs, i)
structure Same' (l l' : Nest) : Prop where
  sizes : l'.Sizes = l.Sizes
  ins : l'.Ins = l.Ins
  fixed : l'.Fixed = l.Fixed
  outs : l'.Outs = l.Outs
theorem scan (l : Nest) (h : NI l) : ∀ (m k : Nat), k + m = l.Kernels.length →
    (∃ l', NI l' ∧ l'.Kernels.length + 1 = l.Kernels.length ∧ Same' l l' ∧ loopM specF (at_ l k) = loopM specF (at_ l' 0) ∧ loopM (fun s : Int => impl_fuseOnce_L1 l s) (k : Int) = some (.inl (true, l'))) ∨
    (loopM specF (at_ l k) = some (fld l) ∧ loopM (fun s : Int => impl_fuseOnce_L1 l s) (k : Int) = some (.inr ())) := by
  have hl := h.len
  intro m
  induction m with
  | zero =>
    intro k hk
    have hk : k = l.Kernels.length := by omega
    subst hk
    refine .inr ⟨loopM_end ?_, loopM_end ?_⟩
    · show spec_Fuse_L1 l.Sizes l.Ins l.Fixed l.Kernels l.Outs (l.Kernels.length : Int) = _
      unfold spec_Fuse_L1
      simp only [nlt_, Bool.false_eq_true, if_false]
      rfl
    · unfold impl_fuseOnce_L1; simp only [nlt_, Bool.false_eq_true, if_false]
  | succ m ih =>
    intro k hk
    have hlt : k < l.Kernels.length := by omega
    rcases step_p l k hlt h with ⟨e1, e2⟩ | ⟨l', e1, e2, q1, q2, q3, q4, q5, q6⟩
    · have f1 : specF (at_ l k) = some (.inl (at_ l ((k + 1 : Nat) : Int))) := by
        show spec_Fuse_L1 l.Sizes l.Ins l.Fixed l.Kernels l.Outs (k : Int) = _
        unfold spec_Fuse_L1
        rw [if_pos (lt_ hlt)]
        show (spec_l11Try l k).bind _ = _
        rw [e1, bind_some', w64k (by unfold big; omega)]
        rfl
      rw [loopM_next f1, loopM_next e2]
      exact ih (k + 1) (by omega)
    · have f1 : specF (at_ l k) = some (.inl (at_ l' 0)) := by
        show spec_Fuse_L1 l.Sizes l.Ins l.Fixed l.Kernels l.Outs (k : Int) = _
        unfold spec_Fuse_L1
        rw [if_pos (lt_ hlt)]
        show (spec_l11Try l k).bind _ = _
        rw [e1, bind_some']
        rfl
      exact .inl ⟨l', q1, q2, ⟨q3, q4, q5, q6⟩, loopM_next f1, loopM_end e2⟩
theorem fuse_loops : ∀ (n : Nat) (l : Nest), NI l → l.Kernels.length = n → ∃ r, NI r ∧ Same' l r ∧ loopM specF (at_ l 0) = some (fld r) ∧ loopM implF (fld l) = some (fld r) := by
  intro n
  induction n using Nat.strongRecOn with
  | _ n ih =>
    intro l h hn
    rcases scan l h l.Kernels.length 0 (by omega) with ⟨l', q1, q2, q3, e1, e2⟩ | ⟨e1, e2⟩
    · obtain ⟨r, r1, r2, r3, r4⟩ := ih l'.Kernels.length (by omega) l' q1 rfl
      refine ⟨r, r1, ⟨r2.sizes.trans q3.sizes, r2.ins.trans q3.ins, r2.fixed.trans q3.fixed, r2.outs.trans q3.outs⟩, by rw [← r3]; exact e1, ?_⟩
      have f : implF (fld l) = some (.inl (fld l')) := by
        show impl_Fuse_L1 l.Sizes l.Ins l.Fixed l.Kernels l.Outs = _
        unfold impl_Fuse_L1
        show (impl_fuseOnce l).bind _ = _
        have : impl_fuseOnce l = some (true, l') := by
          unfold impl_fuseOnce
          have e2' : loopM (fun s : Int => impl_fuseOnce_L1 l s) 0 = _ := e2
          rw [e2', bind_some']
        rw [this, bind_some']
        rfl
      rw [loopM_next f]; exact r4
    · refine ⟨l, h, ⟨rfl, rfl, rfl, rfl⟩, e1, loopM_end ?_⟩
      show impl_Fuse_L1 l.Sizes l.Ins l.Fixed l.Kernels l.Outs = _
      unfold impl_Fuse_L1
      show (impl_fuseOnce l).bind _ = _
      have : impl_fuseOnce l = some (false, l) := by
        unfold impl_fuseOnce
        have e2' : loopM (fun s : Int => impl_fuseOnce_L1 l s) 0 = _ := e2
        rw [e2', bind_some']
        rfl
      rw [this, bind_some']
      rfl
theorem nestB_ni {l : Nest} (h : nestB l = true) (hs : Sm l) : NI l := by
  unfold nestB at h
  simp only [Bool.and_eq_true, decide_eq_true_eq] at h
  obtain ⟨⟨⟨⟨h1, h2⟩, h3⟩, h4⟩, h5⟩ := h
  refine ⟨?_, h1.2, hs.outs⟩
  cases hG : (givI l.Ins []).bind (givF l.Sizes l.Fixed) with
  | none => rw [hG] at h5; cases h5
  | some gl =>
    rw [hG] at h5
    simp only at h5
    cases hS : sumK l.Sizes gl l.Kernels 0 with
    | none => rw [hS] at h5; cases h5
    | some s =>
      have key : ∀ (ks : List Kernel) (a b : Int), sumK l.Sizes gl ks a = some b → ∀ k ∈ ks, KI l.Sizes k := by
        intro ks
        induction ks with
        | nil => intro a b _ k hk; cases hk
        | cons k ks ih =>
          intro a b h k' hk'
          unfold sumK at h
          split at h
          · rename_i hc
            rcases List.mem_cons.1 hk' with rfl | hk'
            · exact ki_of_ker hc.1
            · exact ih _ _ h k' hk'
          · cases h
      exact key _ _ _ hS
theorem ni_sm {l r : Nest} (hs : Sm l) (h : NI r) (e : Same' l r) : Sm r :=
  ⟨by rw [e.sizes]; exact hs.sizes, by rw [e.ins]; exact hs.ins, by rw [e.outs]; exact hs.outs, by rw [e.fixed]; exact hs.fixed, by have := h.len; omega, by rw [e.fixed]; exact hs.data,
    fun k hk => (h.ker k hk).sm.loops, fun k hk => (h.ker k hk).sm.loads, fun k hk => (h.ker k hk).sm.steps, fun k hk => (h.ker k hk).sm.store, fun k hk => (h.ker k hk).sm.code⟩
/-- The one answers as the other. -/
theorem fuse_eq (l : Nest) (hs : Sm l) : ∃ r, spec_Fuse l = some r ∧ impl_Fuse l = some r ∧ Sm r := by
  unfold spec_Fuse impl_Fuse
  rw [spec_nest_eq l hs, impl_nest_eq l hs, bind_some', bind_some']
  cases hb : nestB l
  · refine ⟨⟨[], [], [], [], []⟩, rfl, rfl, ?_⟩
    constructor <;> simp
  · have hN := nestB_ni hb hs
    obtain ⟨r, r1, r2, r3, r4⟩ := fuse_loops _ l hN rfl
    have hr := ni_sm hs r1 r2
    refine ⟨r, ?_, ?_, hr⟩
    · simp only [Bool.not_true, Bool.false_eq_true, if_false]
      have r3' : loopM (fun s : (List Int) × (List Int) × (List Fix) × (List Kernel) × (List Int) × Int => spec_Fuse_L1 s.1 s.2.1 s.2.2.1 s.2.2.2.1 s.2.2.2.2.1 s.2.2.2.2.2) (l.Sizes, l.Ins, l.Fixed, l.Kernels, l.Outs, (0 : Int)) = some (fld r) := r3
      rw [r3', bind_some']
      show (spec_l11CopyNest r).bind _ = _
      rw [copyNest_eq r hr, bind_some']
    · simp only [Bool.not_true, Bool.false_eq_true, if_false]
      rw [cloneNest_eq l hs, bind_some']
      have r4' : loopM (fun s : (List Int) × (List Int) × (List Fix) × (List Kernel) × (List Int) => impl_Fuse_L1 s.1 s.2.1 s.2.2.1 s.2.2.2.1 s.2.2.2.2) (l.Sizes, l.Ins, l.Fixed, l.Kernels, l.Outs) = some (fld r) := r4
      rw [r4', bind_some']
      show (impl_cloneNest r).bind _ = _
      rw [cloneNest_eq r hr, bind_some']
end Go.Proofs.Ytbdchgofcejiiaa
