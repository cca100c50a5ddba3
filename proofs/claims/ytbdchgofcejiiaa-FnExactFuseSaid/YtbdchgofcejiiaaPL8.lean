import Derived.Test.YtbdchgofcejiiaaPL7
set_option linter.unusedVariables false
set_option linter.unusedSimpArgs false
namespace Go.Proofs.Ytbdchgofcejiiaa
open Go Go.Pg
theorem set_loop {α T : Type} [Inhabited α] (xs : List α) (z : α) (f : T → Option (T ⊕ List α)) (mk : List α → Int → T)
    (hf : ∀ (ys : List α) (k : Nat), ys.length = xs.length → k < xs.length → f (mk ys (k : Int)) = some (.inl (mk (ys.set k (ix xs (k : Int))) ((k + 1 : Nat) : Int))))
    (hl : ∀ ys : List α, ys.length = xs.length → f (mk ys (xs.length : Int)) = some (.inr ys)) : loopM f (mk (List.replicate (xs.length : Int).toNat z) 0) = some xs := by
  rw [Int.toNat_natCast]
  rw [loop_goI (S := List α) xs (fun _ s => s.length = xs.length) f mk (fun s k x => .inl (s.set k x)) (fun s => s) (fun s k hI hk => hf s k hI hk) (fun s k s' hI hk h => by injection h with h; subst h; simpa using hI) hl _ (by simp)]
  congr 1
  have key : ∀ (m k : Nat) (ys : List α), k + m = xs.length → ys.length = xs.length → (∀ j, j < k → ys[j]? = xs[j]?) → goI (R := List α) (fun s k x => .inl (s.set k x)) (fun s => s) (xs.drop k) k ys = xs := by
    intro m
    induction m with
    | zero =>
      intro k ys hk hl he
      have hk : k = xs.length := by omega
      subst hk
      rw [List.drop_length]
      show ys = xs
      refine List.ext_getElem? fun j => ?_
      by_cases hj : j < xs.length
      · exact he j hj
      · rw [List.getElem?_eq_none (by omega), List.getElem?_eq_none (by omega)]
    | succ m ih =>
      intro k ys hk hl he
      have hlt : k < xs.length := by omega
      rw [List.drop_eq_getElem_cons hlt]
      unfold goI
      refine ih (k + 1) _ (by omega) (by simpa using hl) (fun j hj => ?_)
      rw [List.getElem?_set]
      by_cases e : k = j
      · subst e; rw [if_pos rfl, if_pos (by omega)]; exact (List.getElem?_eq_getElem hlt).symm
      · rw [if_neg e]; exact he j (by omega)
  simpa using key xs.length 0 (List.replicate xs.length z) (by omega) (by simp) (fun j hj => by omega)
theorem app_loop {α T : Type} [Inhabited α] (xs : List α) (f : T → Option (T ⊕ List α)) (mk : List α → Int → T) (N : Nat) (hN : xs.length ≤ N)
    (hf : ∀ (ys : List α) (k : Nat), ys.length ≤ k → k < xs.length → f (mk ys (k : Int)) = some (.inl (mk (ys ++ [ix xs (k : Int)]) ((k + 1 : Nat) : Int))))
    (hl : ∀ ys : List α, f (mk ys (xs.length : Int)) = some (.inr ys)) : loopM f (mk [] 0) = some xs := by
  rw [loop_goI (S := List α) xs (fun k s => s.length ≤ k) f mk (fun s _ x => .inl (s ++ [x])) (fun s => s) (fun s k hI hk => hf s k hI hk) (fun s k s' hI hk h => by injection h with h; subst h; simp; omega) (fun s _ => hl s) _ (by simp)]
  congr 1
  have key : ∀ (ys acc : List α) (j : Nat), goI (R := List α) (fun s _ x => .inl (s ++ [x])) (fun s => s) ys j acc = acc ++ ys := by
    intro ys
    induction ys with
    | nil => intro acc j; simp [goI]
    | cons y ys ih => intro acc j; unfold goI; simp only []; rw [ih]; simp
  exact key _ _ _
theorem rep_ {α : Type} {n : Nat} {z : α} {k : Nat} (h : k < n) : (0 : Int) ≤ (k : Int) ∧ (k : Int) < ((List.replicate (n : Int).toNat z).length : Int) := by
  rw [List.length_replicate, Int.toNat_natCast]; omega
theorem toIntS_eq (xs : List Int) (h : xs.length ≤ 1048576) : laws_toIntS xs = some xs := by
  unfold laws_toIntS
  rw [if_pos (by omega), set_loop xs 0 (fun s : (List Int) × Int => laws_toIntS_L1 xs s.1 s.2) (fun s i => (s, i)) (fun ys k hl hk => by
    show laws_toIntS_L1 xs ys (k : Int) = _
    unfold laws_toIntS_L1
    rw [if_pos (lt_ hk), if_pos (inr_ hk), if_pos (rep_ hk), w64k (by unfold big; omega)]; rfl) (fun ys _ => by
    show laws_toIntS_L1 xs ys (xs.length : Int) = _
    unfold laws_toIntS_L1; simp only [nlt_, Bool.false_eq_true, if_false])]
  rfl
theorem toFix_eq (x : Fix) (h : x.Data.length ≤ 1048576) : laws_toFix x = some x := by
  unfold laws_toFix; rw [toIntS_eq _ h]; rfl
theorem toFixS_eq (xs : List Fix) (h : xs.length ≤ 1048576) (hd : ∀ f ∈ xs, f.Data.length ≤ 1048576) : laws_toFixS xs = some xs := by
  unfold laws_toFixS
  rw [if_pos (by omega), set_loop xs zT159.z (fun s : (List Fix) × Int => laws_toFixS_L1 xs s.1 s.2) (fun s i => (s, i)) (fun ys k hl hk => by
    show laws_toFixS_L1 xs ys (k : Int) = _
    unfold laws_toFixS_L1
    rw [if_pos (lt_ hk), if_pos (inr_ hk), toFix_eq _ (hd _ (ix_mem hk)), bind_some', if_pos (rep_ hk), w64k (by unfold big; omega)]; rfl) (fun ys _ => by
    show laws_toFixS_L1 xs ys (xs.length : Int) = _
    unfold laws_toFixS_L1; simp only [nlt_, Bool.false_eq_true, if_false])]
  rfl
theorem toAccess_eq (x : Access) (h : x.Steps.length ≤ 1048576) : laws_toAccess x = some x := by
  unfold laws_toAccess; rw [toIntS_eq _ h]; rfl
theorem toAccessS_eq (xs : List Access) (h : xs.length ≤ 1048576) (hd : ∀ f ∈ xs, f.Steps.length ≤ 1048576) : laws_toAccessS xs = some xs := by
  unfold laws_toAccessS
  rw [if_pos (by omega), set_loop xs zT124.z (fun s : (List Access) × Int => laws_toAccessS_L1 xs s.1 s.2) (fun s i => (s, i)) (fun ys k hl hk => by
    show laws_toAccessS_L1 xs ys (k : Int) = _
    unfold laws_toAccessS_L1
    rw [if_pos (lt_ hk), if_pos (inr_ hk), toAccess_eq _ (hd _ (ix_mem hk)), bind_some', if_pos (rep_ hk), w64k (by unfold big; omega)]; rfl) (fun ys _ => by
    show laws_toAccessS_L1 xs ys (xs.length : Int) = _
    unfold laws_toAccessS_L1; simp only [nlt_, Bool.false_eq_true, if_false])]
  rfl
theorem toCalcS_eq (xs : List Calc) (h : xs.length ≤ 1048576) : laws_toCalcS xs = some xs := by
  unfold laws_toCalcS
  rw [if_pos (by omega), set_loop xs zT216.z (fun s : (List Calc) × Int => laws_toCalcS_L1 xs s.1 s.2) (fun s i => (s, i)) (fun ys k hl hk => by
    show laws_toCalcS_L1 xs ys (k : Int) = _
    unfold laws_toCalcS_L1 laws_toCalc
    rw [if_pos (lt_ hk), if_pos (inr_ hk), bind_some', if_pos (rep_ hk), w64k (by unfold big; omega)]; rfl) (fun ys _ => by
    show laws_toCalcS_L1 xs ys (xs.length : Int) = _
    unfold laws_toCalcS_L1; simp only [nlt_, Bool.false_eq_true, if_false])]
  rfl
structure SmK (k : Kernel) : Prop where
  loops : k.Loops.length ≤ 1048576
  loads : k.Loads.length ≤ 1048576
  steps : ∀ a ∈ k.Loads, a.Steps.length ≤ 1048576
  store : k.Store.Steps.length ≤ 1048576
  code : k.Code.length ≤ 1048576
theorem Sm.ker {l : Nest} (h : Sm l) {k : Kernel} (hk : k ∈ l.Kernels) : SmK k := ⟨h.loops k hk, h.loads k hk, h.steps k hk, h.store k hk, h.code k hk⟩
theorem toKernel_eq (x : Kernel) (h : SmK x) : laws_toKernel x = some x := by
  unfold laws_toKernel
  rw [toIntS_eq _ h.loops, bind_some', toAccessS_eq _ h.loads h.steps, bind_some', toAccess_eq _ h.store, bind_some', toCalcS_eq _ h.code]; rfl
theorem toKernelS_eq (xs : List Kernel) (h : xs.length ≤ 1048576) (hd : ∀ f ∈ xs, SmK f) : laws_toKernelS xs = some xs := by
  unfold laws_toKernelS
  rw [if_pos (by omega), set_loop xs zT127.z (fun s : (List Kernel) × Int => laws_toKernelS_L1 xs s.1 s.2) (fun s i => (s, i)) (fun ys k hl hk => by
    show laws_toKernelS_L1 xs ys (k : Int) = _
    unfold laws_toKernelS_L1
    rw [if_pos (lt_ hk), if_pos (inr_ hk), toKernel_eq _ (hd _ (ix_mem hk)), bind_some', if_pos (rep_ hk), w64k (by unfold big; omega)]; rfl) (fun ys _ => by
    show laws_toKernelS_L1 xs ys (xs.length : Int) = _
    unfold laws_toKernelS_L1; simp only [nlt_, Bool.false_eq_true, if_false])]
  rfl
theorem toNest_eq (x : Nest) (h : Sm x) : laws_toNest x = some x := by
  unfold laws_toNest
  rw [toIntS_eq _ h.sizes, bind_some', toIntS_eq _ h.ins, bind_some', toFixS_eq _ h.fixed h.data, bind_some', toKernelS_eq _ h.kers (fun k hk => h.ker hk), bind_some', toIntS_eq _ h.outs]; rfl
/-! ### Copies -/
theorem ints_eq (xs : List Int) (h : xs.length ≤ 1048576) : spec_l3Ints xs = some xs := by
  unfold spec_l3Ints; rw [if_pos (by simp; omega)]; simp
theorem cloneI_eq (xs : List Int) (h : xs.length ≤ 1048576) : slices_Clone_int_int xs = some xs := by
  unfold slices_Clone_int_int; rw [if_pos (by omega)]
theorem copyKernel_eq (k : Kernel) (h : SmK k) : spec_l11CopyKernel k = some k := by
  unfold spec_l11CopyKernel
  have := h.code
  have := h.loads
  rw [ints_eq _ h.loops, bind_some', ints_eq _ h.store, bind_some', if_pos (by simp; omega)]
  rw [app_loop k.Loads (fun s : (List Access) × Int => spec_l11CopyKernel_L1 k s.1 s.2) (fun s i => (s, i)) 1048576 h.loads (fun ys j hl hj => by
    show spec_l11CopyKernel_L1 k ys (j : Int) = _
    unfold spec_l11CopyKernel_L1
    rw [if_pos (lt_ hj), if_pos (inr_ hj), ints_eq _ (h.steps _ (ix_mem hj)), bind_some', if_pos (by simp; omega), w64k (by unfold big; omega)]) (fun ys => by
    show spec_l11CopyKernel_L1 k ys (k.Loads.length : Int) = _
    unfold spec_l11CopyKernel_L1; simp only [nlt_, Bool.false_eq_true, if_false])]
  rw [bind_some']
  unfold spec_l11CopyKernel_J1
  simp
theorem copyNest_eq (l : Nest) (h : Sm l) : spec_l11CopyNest l = some l := by
  unfold spec_l11CopyNest
  have := h.fixed
  have := h.kers
  rw [ints_eq _ h.sizes, bind_some', ints_eq _ h.ins, bind_some', ints_eq _ h.outs, bind_some']
  rw [app_loop l.Fixed (fun s : (List Fix) × Int => spec_l11CopyNest_L1 l s.1 s.2) (fun s i => (s, i)) 1048576 h.fixed (fun ys j hl hj => by
    show spec_l11CopyNest_L1 l ys (j : Int) = _
    unfold spec_l11CopyNest_L1
    rw [if_pos (lt_ hj), if_pos (inr_ hj), ints_eq _ (h.data _ (ix_mem hj)), bind_some', if_pos (by simp; omega), w64k (by unfold big; omega)]) (fun ys => by
    show spec_l11CopyNest_L1 l ys (l.Fixed.length : Int) = _
    unfold spec_l11CopyNest_L1; simp only [nlt_, Bool.false_eq_true, if_false])]
  rw [bind_some']
  unfold spec_l11CopyNest_J1
  rw [app_loop l.Kernels (fun s : (List Kernel) × Int => spec_l11CopyNest_L2 l s.1 s.2) (fun s i => (s, i)) 1048576 h.kers (fun ys j hl hj => by
    show spec_l11CopyNest_L2 l ys (j : Int) = _
    unfold spec_l11CopyNest_L2
    rw [if_pos (lt_ hj), if_pos (inr_ hj), copyKernel_eq _ (h.ker (ix_mem hj)), bind_some', if_pos (by simp; omega), w64k (by unfold big; omega)]) (fun ys => by
    show spec_l11CopyNest_L2 l ys (l.Kernels.length : Int) = _
    unfold spec_l11CopyNest_L2; simp only [nlt_, Bool.false_eq_true, if_false])]
  rfl
theorem cloneAcc_eq (x : Access) (h : x.Steps.length ≤ 1048576) : impl_cloneAccess x = some x := by
  unfold impl_cloneAccess; rw [cloneI_eq _ h]; rfl
theorem cloneFix_eq (x : Fix) (h : x.Data.length ≤ 1048576) : impl_cloneNest_1 x = some x := by
  unfold impl_cloneNest_1; rw [cloneI_eq _ h]; rfl
theorem cloneFixS_eq (xs : List Fix) (h : xs.length ≤ 1048576) (hd : ∀ f ∈ xs, f.Data.length ≤ 1048576) : impl_mapped_impl_Fix_impl_Fix__impl_cloneNest_1 xs = some xs := by
  unfold impl_mapped_impl_Fix_impl_Fix__impl_cloneNest_1
  rw [if_pos (by omega), set_loop xs zT159.z (fun s : (List Fix) × Int => impl_mapped_impl_Fix_impl_Fix__impl_cloneNest_1_L1 xs s.1 s.2) (fun s i => (s, i)) (fun ys k hl hk => by
    show impl_mapped_impl_Fix_impl_Fix__impl_cloneNest_1_L1 xs ys (k : Int) = _
    unfold impl_mapped_impl_Fix_impl_Fix__impl_cloneNest_1_L1
    rw [if_pos (lt_ hk), if_pos (inr_ hk), cloneFix_eq _ (hd _ (ix_mem hk)), bind_some', if_pos (rep_ hk), w64k (by unfold big; omega)]; rfl) (fun ys _ => by
    show impl_mapped_impl_Fix_impl_Fix__impl_cloneNest_1_L1 xs ys (xs.length : Int) = _
    unfold impl_mapped_impl_Fix_impl_Fix__impl_cloneNest_1_L1; simp only [nlt_, Bool.false_eq_true, if_false])]
  rfl
theorem cloneAccS_eq (xs : List Access) (h : xs.length ≤ 1048576) (hd : ∀ f ∈ xs, f.Steps.length ≤ 1048576) : impl_mapped_impl_Access_impl_Access__impl_cloneAccess xs = some xs := by
  unfold impl_mapped_impl_Access_impl_Access__impl_cloneAccess
  rw [if_pos (by omega), set_loop xs zT124.z (fun s : (List Access) × Int => impl_mapped_impl_Access_impl_Access__impl_cloneAccess_L1 xs s.1 s.2) (fun s i => (s, i)) (fun ys k hl hk => by
    show impl_mapped_impl_Access_impl_Access__impl_cloneAccess_L1 xs ys (k : Int) = _
    unfold impl_mapped_impl_Access_impl_Access__impl_cloneAccess_L1
    rw [if_pos (lt_ hk), if_pos (inr_ hk), cloneAcc_eq _ (hd _ (ix_mem hk)), bind_some', if_pos (rep_ hk), w64k (by unfold big; omega)]; rfl) (fun ys _ => by
    show impl_mapped_impl_Access_impl_Access__impl_cloneAccess_L1 xs ys (xs.length : Int) = _
    unfold impl_mapped_impl_Access_impl_Access__impl_cloneAccess_L1; simp only [nlt_, Bool.false_eq_true, if_false])]
  rfl
theorem cloneKer_eq (x : Kernel) (h : SmK x) : impl_cloneKernel x = some x := by
  unfold impl_cloneKernel slices_Clone_impl_Calc_impl_Calc
  have := h.code
  rw [cloneI_eq _ h.loops, bind_some', cloneAccS_eq _ h.loads h.steps, bind_some', cloneAcc_eq _ h.store, bind_some', if_pos (by omega)]; rfl
theorem cloneKerS_eq (xs : List Kernel) (h : xs.length ≤ 1048576) (hd : ∀ f ∈ xs, SmK f) : impl_mapped_impl_Kernel_impl_Kernel__impl_cloneKernel xs = some xs := by
  unfold impl_mapped_impl_Kernel_impl_Kernel__impl_cloneKernel
  rw [if_pos (by omega), set_loop xs zT127.z (fun s : (List Kernel) × Int => impl_mapped_impl_Kernel_impl_Kernel__impl_cloneKernel_L1 xs s.1 s.2) (fun s i => (s, i)) (fun ys k hl hk => by
    show impl_mapped_impl_Kernel_impl_Kernel__impl_cloneKernel_L1 xs ys (k : Int) = _
    unfold impl_mapped_impl_Kernel_impl_Kernel__impl_cloneKernel_L1
    rw [if_pos (lt_ hk), if_pos (inr_ hk), cloneKer_eq _ (hd _ (ix_mem hk)), bind_some', if_pos (rep_ hk), w64k (by unfold big; omega)]; rfl) (fun ys _ => by
    show impl_mapped_impl_Kernel_impl_Kernel__impl_cloneKernel_L1 xs ys (xs.length : Int) = _
    unfold impl_mapped_impl_Kernel_impl_Kernel__impl_cloneKernel_L1; simp only [nlt_, Bool.false_eq_true, if_false])]
  rfl
theorem cloneNest_eq (l : Nest) (h : Sm l) : impl_cloneNest l = some l := by
  unfold impl_cloneNest
  rw [cloneFixS_eq _ h.fixed h.data, bind_some', cloneI_eq _ h.sizes, bind_some', cloneI_eq _ h.ins, bind_some', cloneKerS_eq _ h.kers (fun k hk => h.ker hk), bind_some', cloneI_eq _ h.outs]; rfl
end Go.Proofs.Ytbdchgofcejiiaa
