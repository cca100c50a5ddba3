import Derived.Test.YtbdchgofcejiiaaPL11
set_option linter.unusedVariables false
set_option linter.unusedSimpArgs false
namespace Go.Proofs.Ytbdchgofcejiiaa
open Go Go.Pg
/-- What a kernel's loops and code ask. -/
structure KI (sizes : List Int) (k : Kernel) : Prop where
  loops : k.Loops.length ≤ 12
  loads : k.Loads.length ≤ 30
  steps : ∀ a ∈ k.Loads, a.Steps.length = k.Loops.length
  store : k.Store.Steps.length = k.Loops.length
  code1 : 1 ≤ k.Code.length
  code2 : k.Code.length ≤ 60
  buf : 0 ≤ k.Store.Buffer ∧ k.Store.Buffer < (sizes.length : Int)
  op1 : ∀ j : Nat, j < k.Code.length → (ix k.Code (j : Int)).Op = 1 → 0 ≤ (ix k.Code (j : Int)).A ∧ (ix k.Code (j : Int)).A < (k.Loads.length : Int)
  op3 : ∀ j : Nat, j < k.Code.length → (ix k.Code (j : Int)).Op = 3 ∨ (ix k.Code (j : Int)).Op = 4 ∨ (ix k.Code (j : Int)).Op = 5 → 0 ≤ (ix k.Code (j : Int)).B ∧ (ix k.Code (j : Int)).B < (j : Int)
  opn : ∀ j : Nat, j < k.Code.length → (ix k.Code (j : Int)).Op ≠ 1 → (ix k.Code (j : Int)).Op ≠ 2 → 0 ≤ (ix k.Code (j : Int)).A ∧ (ix k.Code (j : Int)).A < (j : Int)
theorem KI.sm {sizes : List Int} {k : Kernel} (h : KI sizes k) : SmK k :=
  ⟨by have := h.loops; omega, by have := h.loads; omega, fun a ha => by have := h.steps a ha; have := h.loops; omega, by have := h.store; have := h.loops; omega, by have := h.code2; omega⟩
theorem KI.kok {sizes : List Int} {k : Kernel} (h : KI sizes k) : KOk sizes k := ⟨h.sm, h.buf⟩
theorem ki_of_ker {sizes : List Int} {k : Kernel} (h : kerB sizes k = true) : KI sizes k := by
  unfold kerB accB at h
  simp only [Bool.and_eq_true, decide_eq_true_eq] at h
  obtain ⟨⟨⟨⟨⟨h1, h2⟩, h3⟩, h4⟩, ⟨h5, h6⟩, h7⟩, h8⟩ := h
  have hfit : ∀ a z, fitB a k.Loops z = true → a.Steps.length = k.Loops.length := fun a z h => by
    unfold fitB at h
    simp only [Bool.and_eq_true, decide_eq_true_eq] at h
    exact h.1.1.1
  unfold codeB at h4
  simp only [Bool.and_eq_true, decide_eq_true_eq, List.all_eq_true, List.mem_range] at h4
  obtain ⟨⟨c1, c2⟩, c3⟩ := h4
  refine ⟨h1, h2, fun a ha => ?_, hfit _ _ h7, c1, c2, ⟨h5, h6⟩, fun j hj ho => ?_, fun j hj ho => ?_, fun j hj n1 n2 => ?_⟩
  · have := List.all_eq_true.1 h8 a ha
    unfold ldB accB at this
    simp only [Bool.and_eq_true, decide_eq_true_eq] at this
    exact hfit _ _ this.1.2
  · have := c3 j hj
    unfold okC at this
    simp only [ho, beq_self_eq_true, if_true, Bool.and_eq_true, decide_eq_true_eq] at this
    exact ⟨this.1.1, this.1.2⟩
  · have := c3 j hj
    unfold okC at this
    rcases ho with ho | ho | ho <;>
      · simp only [ho] at this
        simp at this
        omega
  · have := c3 j hj
    unfold okC at this
    have e1 := beq_eq_false_iff_ne.2 n1
    have e2 := beq_eq_false_iff_ne.2 n2
    simp only [e1, e2, Bool.false_eq_true, if_false] at this
    split at this
    · simp only [Bool.and_eq_true, decide_eq_true_eq] at this; exact ⟨this.1.1.1, this.1.1.2⟩
    · split at this
      · simp only [Bool.and_eq_true, decide_eq_true_eq] at this; exact ⟨this.1.1, this.1.2⟩
      · cases this
def toF (b : Int) : List Access → Nat → List Int
  | [], _ => []
  | a :: t, n => (n : Int) :: toF b t (if a.Buffer != b then n + 1 else n)
def toG (b : Int) : List Access → Nat → List Int
  | [], _ => []
  | a :: t, n => (if a.Buffer != b then (n : Int) else 0) :: toG b t (if a.Buffer != b then n + 1 else n)
theorem toF_len (b : Int) (xs : List Access) (n : Nat) : (toF b xs n).length = xs.length := by
  induction xs generalizing n with
  | nil => rfl
  | cons a t ih => simp [toF, ih]
theorem toG_len (b : Int) (xs : List Access) (n : Nat) : (toG b xs n).length = xs.length := by
  induction xs generalizing n with
  | nil => rfl
  | cons a t ih => simp [toG, ih]
theorem toFG (b : Int) (xs : List Access) (n : Nat) (j : Nat) (hj : j < xs.length) (hb : xs[j].Buffer ≠ b) : (toF b xs n)[j]? = (toG b xs n)[j]? := by
  induction xs generalizing n j with
  | nil => simp at hj
  | cons a t ih =>
    cases j with
    | zero => have : (a.Buffer != b) = true := by simpa using hb
              simp [toF, toG, this]
    | succ j => simpa [toF, toG] using ih _ j (by simpa using hj) (by simpa using hb)
theorem toF_val (b : Int) (xs : List Access) (n : Nat) : ∀ v ∈ toF b xs n, 0 ≤ v := by
  induction xs generalizing n with
  | nil => intro v hv; cases hv
  | cons a t ih =>
    intro v hv
    rcases List.mem_cons.1 hv with rfl | hv
    · omega
    · exact ih _ v hv
/-- What stands for a load that stays is its place among those that stay. -/
theorem toF_lt (b : Int) (xs : List Access) (n : Nat) (j : Nat) (hj : j < xs.length) (hb : xs[j].Buffer ≠ b) (v : Int) (hv : (toF b xs n)[j]? = some v) : v < (n + (xs.filter fun a => a.Buffer != b).length : Nat) := by
  induction xs generalizing n j with
  | nil => simp at hj
  | cons a t ih =>
    cases j with
    | zero =>
      have e : (a.Buffer != b) = true := by simpa using hb
      simp [toF] at hv
      subst hv
      simp [List.filter_cons, e]; omega
    | succ j =>
      have := ih (if a.Buffer != b then n + 1 else n) j (by simpa using hj) (by simpa using hb) (by simpa [toF] using hv)
      cases e : (a.Buffer != b)
      · simpa [List.filter_cons, e] using this
      · rw [e] at this; simp [List.filter_cons, e] at this ⊢; omega
def scat (w : List Int) (n : Nat) (a : Access) : List Int := goI (S := List Int) (R := List Int) (fun s j x => .inl (s.set x.toNat (ix a.Steps (j : Int)))) (fun s => s) w 0 (List.replicate n 0)
theorem scat_len (w : List Int) (n : Nat) (a : Access) : (scat w n a).length = n := by
  unfold scat
  exact goI_ind (fun (r : List Int) => r.length = n) (fun _ (s : List Int) => s.length = n) w 0 _ (by simp) (fun s j x hI _ => ⟨fun s' h => by injection h with h; subst h; simpa using hI, fun r h => by cases h⟩) (fun s hI => hI)
def shift (f : Nat) (x : Calc) : Calc := if x.Op == 1 then ⟨x.Op, w64 (x.A + (f : Int)), x.B⟩ else x
def stC (c : Kernel) (b : Int) (to : List Int) (last : Int) (s : List Calc × List Int) (x : Calc) : List Calc × List Int :=
  if x.Op == 1 && (ix c.Loads x.A).Buffer == b then (s.1, s.2 ++ [last])
  else (s.1 ++ [(⟨x.Op, if x.Op == 1 then ix to x.A else if x.Op == 2 then x.A else ix s.2 x.A, if x.Op == 3 || x.Op == 4 || x.Op == 5 then ix s.2 x.B else x.B⟩ : Calc)], s.2 ++ [(s.1.length : Int)])
def codeC (p c : Kernel) (f : Nat) : List Calc × List Int := c.Code.foldl (stC c p.Store.Buffer (toF p.Store.Buffer c.Loads 0) (w64 ((p.Code.length : Int) - 1))) (p.Code.map (shift f), [])
def keepL (p c : Kernel) : List Access := c.Loads.filter fun a => a.Buffer != p.Store.Buffer
def fuseK (p c : Kernel) (w : List Int) : Kernel :=
  ⟨c.Loops, keepL p c ++ p.Loads.map (fun a => ⟨a.Buffer, a.Offset, scat w c.Loops.length a⟩), c.Store, c.Sum, (codeC p c (keepL p c).length).1⟩
theorem goI_foldl {S R α : Type} (g : S → α → S) (fin : S → R) (xs : List α) (j : Nat) (s : S) : goI (fun s _ x => .inl (g s x)) fin xs j s = fin (xs.foldl g s) := by
  induction xs generalizing j s with
  | nil => rfl
  | cons x t ih => unfold goI; simp only [List.foldl_cons]; exact ih _ _
theorem stC_len {c : Kernel} {b : Int} {to : List Int} {last : Int} {s : List Calc × List Int} {x : Calc} : (stC c b to last s x).2.length = s.2.length + 1 ∧ (stC c b to last s x).1.length ≤ s.1.length + 1 := by
  unfold stC
  split <;> simp
theorem l3_same {xs : List Int} (h : xs.length ≤ 1048576) : spec_l3Ints xs = some xs := ints_eq xs h
theorem into_L1 (p c : Kernel) {sz : List Int} (hc : KI sz c) : loopM (fun s : (List Access) × (List Int) × Int => spec_l11Into_L1 p c s.1 s.2.1 s.2.2) ([], [], 0) = some (keepL p c, toF p.Store.Buffer c.Loads 0) := by
  have hl := hc.loads
  rw [loop_goI (S := List Access × List Int) c.Loads (fun k s => s.1.length ≤ k ∧ s.2.length = k) (fun s : (List Access) × (List Int) × Int => spec_l11Into_L1 p c s.1 s.2.1 s.2.2) (fun s i => (s.1, s.2, i))
    (fun s _ a => .inl (if a.Buffer != p.Store.Buffer then (s.1 ++ [a], s.2 ++ [(s.1.length : Int)]) else (s.1, s.2 ++ [(s.1.length : Int)]))) (fun s => s) ?_ ?_ ?_ ([], []) ⟨Nat.le_refl _, rfl⟩]
  · congr 1
    have key : ∀ (xs : List Access) (j : Nat) (s : List Access × List Int), goI (R := List Access × List Int) (fun s _ a => .inl (if a.Buffer != p.Store.Buffer then (s.1 ++ [a], s.2 ++ [(s.1.length : Int)]) else (s.1, s.2 ++ [(s.1.length : Int)]))) (fun s => s) xs j s = (s.1 ++ xs.filter (fun a => a.Buffer != p.Store.Buffer), s.2 ++ toF p.Store.Buffer xs s.1.length) := by
      intro xs
      induction xs with
      | nil => intro j s; simp [goI, toF]
      | cons a t ih =>
        intro j s
        unfold goI
        simp only []
        rw [ih]
        cases e : (a.Buffer != p.Store.Buffer)
        · simp [toF, e, List.filter_cons]
        · simp [toF, e, List.filter_cons]
    rw [key]
    simp [keepL]
  · rintro s k ⟨i0, i1⟩ hk
    show spec_l11Into_L1 p c s.1 s.2 (k : Int) = _
    unfold spec_l11Into_L1 spec_l11Into_J2
    have hst : (ix c.Loads (k : Int)).Steps.length ≤ 1048576 := by have := hc.steps _ (ix_mem hk); have := hc.loops; omega
    rw [if_pos (lt_ hk), if_pos (by simp; omega), if_pos (inr_ hk), w64k (by unfold big; omega)]
    generalize ix c.Loads (k : Int) = a at *
    cases e : (a.Buffer != p.Store.Buffer)
    · simp
    · rw [if_pos rfl, ints_eq _ hst, bind_some', if_pos (by simp; omega)]
      simp
  · rintro s k s' ⟨i0, i1⟩ hk hs
    injection hs with hs; subst hs
    split
    · exact ⟨by simp; omega, by simp; omega⟩
    · exact ⟨by simp only; omega, by simp; omega⟩
  · rintro s _
    show spec_l11Into_L1 p c s.1 s.2 (c.Loads.length : Int) = _
    unfold spec_l11Into_L1; simp only [nlt_, Bool.false_eq_true, if_false]
theorem into_L3 (p c : Kernel) (w : List Int) (i : Nat) (hw : w.length ≤ (ix p.Loads (i : Int)).Steps.length) (hw2 : ∀ x ∈ w, 0 ≤ x ∧ x < (c.Loops.length : Int)) (hwl : w.length ≤ 1048576) :
    loopM (fun s : (List Int) × Int => spec_l11Into_L3 p c w (i : Int) s.1 s.2) ((List.replicate (c.Loops.length : Int).toNat (0 : Int)), 0) = some (scat w c.Loops.length (ix p.Loads (i : Int))) := by
  rw [loop_goI (S := List Int) w (fun _ _ => True) (fun s : (List Int) × Int => spec_l11Into_L3 p c w (i : Int) s.1 s.2) (fun s i => (s, i)) (fun s j x => .inl (s.set x.toNat (ix (ix p.Loads (i : Int)).Steps (j : Int)))) (fun s => s) (fun s k _ hk => by
    show spec_l11Into_L3 p c w (i : Int) s (k : Int) = _
    have hx := hw2 _ (ix_mem hk)
    unfold spec_l11Into_L3
    rw [if_pos (lt_ hk), if_pos (inr_ hk), if_pos (inr_ (by omega)), if_pos (by rw [List.length_replicate, Int.toNat_natCast]; exact hx), nm_bind, w64k (by unfold big; omega)]) (fun _ _ _ _ _ _ => trivial) (fun s _ => by
    show spec_l11Into_L3 p c w (i : Int) s (w.length : Int) = _
    unfold spec_l11Into_L3; simp only [nlt_, Bool.false_eq_true, if_false]) _ trivial]
  rw [Int.toNat_natCast]; rfl
theorem into_L2 (p c : Kernel) (w : List Int) (x0 : List Access) {sz : List Int} (hp : KI sz p) (hc : KI sz c) (hw : w.length ≤ p.Loops.length) (hw2 : ∀ x ∈ w, 0 ≤ x ∧ x < (c.Loops.length : Int)) (hx : x0.length ≤ 30) :
    loopM (fun s : (List Access) × Int => spec_l11Into_L2 p c w s.1 s.2) (x0, 0) = some (x0 ++ p.Loads.map (fun a => ⟨a.Buffer, a.Offset, scat w c.Loops.length a⟩)) := by
  have hpl := hp.loads
  have hcl := hc.loops
  have hpo := hp.loops
  rw [loop_goI (S := List Access) p.Loads (fun k s => s.length ≤ 30 + k) (fun s : (List Access) × Int => spec_l11Into_L2 p c w s.1 s.2) (fun s i => (s, i)) (fun s _ a => .inl (s ++ [(⟨a.Buffer, a.Offset, scat w c.Loops.length a⟩ : Access)])) (fun s => s) ?_ ?_ ?_ x0 hx]
  · congr 1
    rw [goI_foldl (fun s a => s ++ [(⟨a.Buffer, a.Offset, scat w c.Loops.length a⟩ : Access)])]
    have key : ∀ (xs acc : List Access), xs.foldl (fun s a => s ++ [(⟨a.Buffer, a.Offset, scat w c.Loops.length a⟩ : Access)]) acc = acc ++ xs.map (fun a => ⟨a.Buffer, a.Offset, scat w c.Loops.length a⟩) := by
      intro xs
      induction xs with
      | nil => intro acc; simp
      | cons a t ih => intro acc; simp only [List.foldl_cons]; rw [ih]; simp
    exact key _ _
  · intro s k hI hk
    show spec_l11Into_L2 p c w s (k : Int) = _
    unfold spec_l11Into_L2 spec_l11Into_J5
    rw [if_pos (lt_ hk), if_pos (inr_ hk), if_pos (by omega), into_L3 p c w k (by rw [hp.steps _ (ix_mem hk)]; exact hw) hw2 (by omega), bind_some', if_pos (by simp; omega), w64k (by unfold big; omega)]
  · intro s k s' hI hk hs
    injection hs with hs; subst hs; simp; omega
  · intro s _
    show spec_l11Into_L2 p c w s (p.Loads.length : Int) = _
    unfold spec_l11Into_L2; simp only [nlt_, Bool.false_eq_true, if_false]
theorem fold_map {α β : Type} (g : α → β) (xs : List α) (acc : List β) : xs.foldl (fun s a => s ++ [g a]) acc = acc ++ xs.map g := by
  induction xs generalizing acc with
  | nil => simp
  | cons a t ih => simp only [List.foldl_cons]; rw [ih]; simp
theorem into_L4 (p : Kernel) (x : List Access) {sz : List Int} (hp : KI sz p) : loopM (fun s : (List Calc) × Int => spec_l11Into_L4 p x s.1 s.2) ([], 0) = some (p.Code.map (shift x.length)) := by
  have hpc := hp.code2
  rw [loop_goI (S := List Calc) p.Code (fun k s => s.length ≤ k) (fun s : (List Calc) × Int => spec_l11Into_L4 p x s.1 s.2) (fun s i => (s, i)) (fun s _ a => .inl (s ++ [shift x.length a])) (fun s => s) ?_ ?_ ?_ [] (by simp)]
  · rw [goI_foldl (fun s a => s ++ [shift x.length a]), fold_map]; rfl
  · intro s k hI hk
    show spec_l11Into_L4 p x s (k : Int) = _
    unfold spec_l11Into_L4 spec_l11Into_J8 shift
    have l2 : ∀ v : Calc, s.length + ([v] : List Calc).length ≤ 5864062014805 := fun v => by simp; omega
    rw [if_pos (lt_ hk), if_pos (inr_ hk), w64k (by unfold big; omega)]
    simp only [if_pos (l2 _)]
    cases (ix p.Code (k : Int)).Op == 1 <;> rfl
  · intro s k s' hI hk hs
    injection hs with hs; subst hs; simp; omega
  · intro s _
    show spec_l11Into_L4 p x s (p.Code.length : Int) = _
    unfold spec_l11Into_L4; simp only [nlt_, Bool.false_eq_true, if_false]
theorem into_L5 (p c : Kernel) (x0 : List Calc) {sz : List Int} (hp : KI sz p) (hc : KI sz c) (hx : x0.length ≤ 60) :
    loopM (fun s : (List Calc) × (List Int) × Int => spec_l11Into_L5 p c (toF p.Store.Buffer c.Loads 0) s.1 s.2.1 s.2.2) (x0, [], 0) = some (c.Code.foldl (stC c p.Store.Buffer (toF p.Store.Buffer c.Loads 0) (w64 ((p.Code.length : Int) - 1))) (x0, [])).1 := by
  have hcc := hc.code2
  have hcl := hc.loads
  have htl := toF_len p.Store.Buffer c.Loads 0
  rw [loop_goI (S := List Calc × List Int) c.Code (fun k s => s.1.length ≤ 60 + k ∧ s.2.length = k) (fun s : (List Calc) × (List Int) × Int => spec_l11Into_L5 p c (toF p.Store.Buffer c.Loads 0) s.1 s.2.1 s.2.2) (fun s i => (s.1, s.2, i))
    (fun s _ x => .inl (stC c p.Store.Buffer (toF p.Store.Buffer c.Loads 0) (w64 ((p.Code.length : Int) - 1)) s x)) (fun s => s.1) ?_ ?_ ?_ (x0, []) ⟨hx, rfl⟩]
  · rw [goI_foldl (stC c p.Store.Buffer (toF p.Store.Buffer c.Loads 0) (w64 ((p.Code.length : Int) - 1)))]
  · rintro s k ⟨i0, i1⟩ hk
    show spec_l11Into_L5 p c (toF p.Store.Buffer c.Loads 0) s.1 s.2 (k : Int) = _
    have h1 := hc.op1 k hk
    have h3 := hc.op3 k hk
    have hn := hc.opn k hk
    unfold spec_l11Into_L5 spec_l11Into_J13 spec_l11Into_J14 spec_l11Into_J15 stC
    generalize ix c.Code (k : Int) = x at *
    rw [if_pos (lt_ hk), if_pos (inr_ hk), w64k (by unfold big; omega)]
    have l1 : ∀ v : Int, s.2.length + ([v] : List Int).length ≤ 17592186044416 := fun v => by simp; omega
    have l2 : ∀ v : Calc, s.1.length + ([v] : List Calc).length ≤ 5864062014805 := fun v => by simp; omega
    by_cases o1 : x.Op = 1
    · have e1 : (x.Op == 1) = true := by simpa using o1
      have r1 := h1 o1
      rw [e1]
      simp only [if_true, if_pos r1, if_pos (l1 _), if_pos (l2 _), Bool.true_and]
      cases hb : (ix c.Loads x.A).Buffer == p.Store.Buffer
      · have e3 : (x.Op == 3 || x.Op == 4 || x.Op == 5) = false := by rw [o1]; rfl
        simp only [Bool.false_eq_true, if_false, e3]
        rw [if_pos (by rw [htl]; exact r1)]
      · simp only [if_true]
    have e1 : (x.Op == 1) = false := beq_eq_false_iff_ne.2 o1
    rw [e1]
    simp only [Bool.false_eq_true, if_false, Bool.false_and]
    by_cases o2 : x.Op = 2
    · have e2 : (x.Op == 2) = true := by simpa using o2
      have e3 : (x.Op == 3 || x.Op == 4 || x.Op == 5) = false := by rw [o2]; rfl
      rw [e2, e3]
      simp only [if_true, if_pos (l1 _), if_pos (l2 _), Bool.false_eq_true, if_false]
    have e2 : (x.Op == 2) = false := beq_eq_false_iff_ne.2 o2
    have rn := hn o1 o2
    rw [e2]
    simp only [Bool.false_eq_true, if_false]
    have rA : 0 ≤ x.A ∧ x.A < (s.2.length : Int) := by omega
    by_cases o3 : x.Op = 3 ∨ x.Op = 4 ∨ x.Op = 5
    · have r3 := h3 o3
      have rB : 0 ≤ x.B ∧ x.B < (s.2.length : Int) := by omega
      have e3 : (x.Op == 3 || x.Op == 4 || x.Op == 5) = true := by rcases o3 with h | h | h <;> rw [h] <;> rfl
      rw [e3]
      have f : ∀ q : Bool, (q = true) → (if q = true then (if (0 ≤ x.A ∧ x.A < (s.2.length : Int)) then if (0 ≤ x.B ∧ x.B < (s.2.length : Int)) then (some (.inl (s.1 ++ [(⟨x.Op, ix s.2 x.A, ix s.2 x.B⟩ : Calc)], s.2 ++ [(s.1.length : Int)], ((k + 1 : Nat) : Int))) : Option ((List Calc × List Int × Int) ⊕ List Calc)) else none else none) else none) = some (.inl (s.1 ++ [(⟨x.Op, ix s.2 x.A, ix s.2 x.B⟩ : Calc)], s.2 ++ [(s.1.length : Int)], ((k + 1 : Nat) : Int))) := fun q hq => by rw [if_pos hq, if_pos rA, if_pos rB]
      simp only [if_pos (l1 _), if_pos (l2 _), if_pos rA, if_pos rB, if_true]
      rcases o3 with h | h | h
      · have q3 : (x.Op == 3) = true := by rw [h]; rfl
        simp [q3]
      · have q3 : (x.Op == 3) = false := by rw [h]; rfl
        have q4 : (x.Op == 4) = true := by rw [h]; rfl
        simp [q3, q4]
      · have q3 : (x.Op == 3) = false := by rw [h]; rfl
        have q4 : (x.Op == 4) = false := by rw [h]; rfl
        have q5 : (x.Op == 5) = true := by rw [h]; rfl
        simp [q3, q4, q5]
    · have q3 : (x.Op == 3) = false := beq_eq_false_iff_ne.2 (fun e => o3 (.inl e))
      have q4 : (x.Op == 4) = false := beq_eq_false_iff_ne.2 (fun e => o3 (.inr (.inl e)))
      have q5 : (x.Op == 5) = false := beq_eq_false_iff_ne.2 (fun e => o3 (.inr (.inr e)))
      rw [q3, q4, q5]
      simp only [Bool.or_self, Bool.false_eq_true, if_false, if_pos rA, if_pos (l1 _), if_pos (l2 _)]
  · rintro s k s' ⟨i0, i1⟩ hk hs
    injection hs with hs; subst hs
    have := @stC_len c p.Store.Buffer (toF p.Store.Buffer c.Loads 0) (w64 ((p.Code.length : Int) - 1)) s (ix c.Code (k : Int))
    omega
  · rintro s _
    show spec_l11Into_L5 p c (toF p.Store.Buffer c.Loads 0) s.1 s.2 (c.Code.length : Int) = _
    unfold spec_l11Into_L5; simp only [nlt_, Bool.false_eq_true, if_false]
theorem keep_len (p c : Kernel) : (keepL p c).length ≤ c.Loads.length := List.length_filter_le _ _
theorem into_eq (p c : Kernel) (w : List Int) {sz : List Int} (hp : KI sz p) (hc : KI sz c) (hw : w.length ≤ p.Loops.length) (hw2 : ∀ x ∈ w, 0 ≤ x ∧ x < (c.Loops.length : Int)) : spec_l11Into p c w = some (fuseK p c w) := by
  have hcl := hc.loads
  have hk := keep_len p c
  unfold spec_l11Into
  rw [ints_eq _ hc.sm.loops, bind_some', ints_eq _ hc.sm.store, bind_some', into_L1 p c hc, bind_some']
  unfold spec_l11Into_J3
  rw [into_L2 p c w _ hp hc hw hw2 (show (keepL p c).length ≤ 30 by omega), bind_some']
  unfold spec_l11Into_J6
  rw [into_L4 p _ hp, bind_some']
  unfold spec_l11Into_J9
  rw [into_L5 p c _ hp hc (by rw [List.length_map]; exact hp.code2), bind_some']
  rfl
end Go.Proofs.Ytbdchgofcejiiaa
