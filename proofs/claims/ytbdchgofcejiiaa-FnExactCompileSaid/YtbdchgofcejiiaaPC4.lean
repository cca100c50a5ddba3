import Derived.Test.YtbdchgofcejiiaaPL2
set_option linter.unusedVariables false
set_option linter.unusedSimpArgs false
namespace Go.Proofs.Ytbdchgofcejiiaa
open Go Go.Pg
theorem mapped_eq {k : Kernel} {p : Plan} (h : KC p k) (hz : k.Loops.length ≠ 0) : impl_mapped_impl_Access_int__impl_writer_kernel_1 (allA k) ((k.Loops.length : Int) - 1) = some (stepsAt k (k.Loops.length - 1)) := by
  have hld := h.loads
  have hal := all_len k
  unfold impl_mapped_impl_Access_int__impl_writer_kernel_1
  rw [if_pos (by omega)]
  have e : loopM (fun s : (List Int) × Int => impl_mapped_impl_Access_int__impl_writer_kernel_1_L1 (allA k) ((k.Loops.length : Int) - 1) s.1 s.2) (List.replicate ((allA k).length : Int).toNat (0 : Int), 0) = some (stepsAt k (k.Loops.length - 1)) := by
    refine map_loop (allA k) (fun a => ix a.Steps ((k.Loops.length - 1 : Nat) : Int)) 0 (fun s : (List Int) × Int => impl_mapped_impl_Access_int__impl_writer_kernel_1_L1 (allA k) ((k.Loops.length : Int) - 1) s.1 s.2) (fun s i => (s, i)) _ (fun ys j hl hj => ?_) ?_
    · show impl_mapped_impl_Access_int__impl_writer_kernel_1_L1 (allA k) ((k.Loops.length : Int) - 1) ys (j : Int) = _
      have hsl := h.len _ (ix_mem hj)
      have q : 0 ≤ (k.Loops.length : Int) - 1 ∧ (k.Loops.length : Int) - 1 < ((ix (allA k) (j : Int)).Steps.length : Int) := by rw [hsl]; omega
      unfold impl_mapped_impl_Access_int__impl_writer_kernel_1_L1 impl_writer_kernel_1
      rw [if_pos (lt_ hj), if_pos (inr_ hj), if_pos q, bind_some', if_pos (rep_ hj), w64k (by unfold big; omega), Int.toNat_natCast, show (k.Loops.length : Int) - 1 = ((k.Loops.length - 1 : Nat) : Int) by omega]
    · show impl_mapped_impl_Access_int__impl_writer_kernel_1_L1 (allA k) ((k.Loops.length : Int) - 1) _ ((allA k).length : Int) = _
      unfold impl_mapped_impl_Access_int__impl_writer_kernel_1_L1
      rw [if_neg (by rw [nlt_]; decide)]; rfl
  rw [e]; rfl
theorem ki_base {p : Plan} {k : Kernel} (h : KC p k) (x : List Instr) (hx : x.length + 1000 < CB) : loopM (fun s : (List Instr) × Int => impl_writer_kernel_L1 p k k.Loads s.1 s.2) (x, 0) = some (x ++ baseP p k) := by
  have hld := h.loads
  have hal := all_len k
  refine cat_loop (allA k) (baseG p) 1 (fun s : (List Instr) × Int => impl_writer_kernel_L1 p k k.Loads s.1 s.2) (fun s i => (s, i)) x _ (fun a y _ => baseG_len p a y) (fun ys j hj hy => ?_) ?_
  · show impl_writer_kernel_L1 p k k.Loads ys (j : Int) = _
    have hb := h.buf _ (ix_mem hj)
    have hw : (⟨ys⟩ : writer).code.length < CB := by show ys.length < _; omega
    unfold impl_writer_kernel_L1
    rw [if_pos (lt_ hj), if_pos (inr_ hj), if_pos hb, put_i hw, bind_some', w64k (by unfold big; omega)]; rfl
  · show impl_writer_kernel_L1 p k k.Loads _ ((allA k).length : Int) = _
    unfold impl_writer_kernel_L1
    rw [if_neg (by rw [nlt_]; decide)]; rfl
theorem ki_reps {p : Plan} {k : Kernel} (h : KC p k) (x : List Instr) (hx : x.length + 1000 < CB) : loopM (fun s : (List Instr) × Int => impl_writer_kernel_L2 (k.Loops.take (k.Loops.length - 1)) s.1 s.2) (x, 0) = some (x ++ repP k) := by
  have hlo := h.loops
  have hl : (k.Loops.take (k.Loops.length - 1)).length ≤ 12 := by rw [List.length_take]; omega
  refine cat_loop (k.Loops.take (k.Loops.length - 1)) (fun _ l => [(⟨1, l, 0, 0⟩ : Instr)]) 1 (fun s : (List Instr) × Int => impl_writer_kernel_L2 (k.Loops.take (k.Loops.length - 1)) s.1 s.2) (fun s i => (s, i)) x _ (fun a y _ => Nat.le_refl 1) (fun ys j hj hy => ?_) ?_
  · show impl_writer_kernel_L2 _ ys (j : Int) = _
    have hw : (⟨ys⟩ : writer).code.length < CB := by show ys.length < _; omega
    unfold impl_writer_kernel_L2
    rw [if_pos (lt_ hj), if_pos (inr_ hj), put_i hw, bind_some', w64k (by unfold big; omega)]
  · show impl_writer_kernel_L2 _ _ ((k.Loops.take (k.Loops.length - 1)).length : Int) = _
    unfold impl_writer_kernel_L2
    rw [if_neg (by rw [nlt_]; decide), cat_map]; rfl
theorem ki_back {p : Plan} {k : Kernel} (h : KC p k) (x : List Instr) (hx : x.length + 1000000 < CB) : loopM (fun s : (List Instr) × Int => impl_writer_kernel_L4 (nP k) (stepsP k) s.1 s.2) (x, 0) = some (x ++ mvs (stepsP k) (w64 (0 - w64 (w64 ((nP k).tdiv 8) * 8)))) := by
  have hld := h.loads
  have hsl := stepsP_len k
  refine moves_i (stepsP k) (w64 (0 - w64 (w64 ((nP k).tdiv 8) * 8))) (fun s : (List Instr) × Int => impl_writer_kernel_L4 (nP k) (stepsP k) s.1 s.2) (fun s i => (s, i)) x _ (by omega) hx (fun ys j hj hy => ?_) ?_
  · show impl_writer_kernel_L4 (nP k) (stepsP k) ys (j : Int) = _
    have hw : (⟨ys⟩ : writer).code.length < CB := hy
    have e : w64 (w64 (-8 * w64 ((nP k).tdiv 8)) * ix (stepsP k) (j : Int)) = w64 (ix (stepsP k) (j : Int) * w64 (0 - w64 (w64 ((nP k).tdiv 8) * 8))) := by
      rw [Int.mul_comm, w64_mulr, w64_neg, w64_mulr, show (-8 : Int) * w64 ((nP k).tdiv 8) = 0 - w64 ((nP k).tdiv 8) * 8 by omega]
    unfold impl_writer_kernel_L4
    rw [if_pos (lt_ hj), if_pos (inr_ hj), e, move_i hw]; rfl
  · show impl_writer_kernel_L4 (nP k) (stepsP k) _ ((stepsP k).length : Int) = _
    unfold impl_writer_kernel_L4
    rw [if_neg (by rw [nlt_]; decide)]
theorem ki_down {p : Plan} {k : Kernel} (h : KC p k) (x : List Instr) (hx : x.length + 2000000 < CB) : loopM (fun s : (List Instr) × Int => impl_writer_kernel_L5 k k.Loads (k.Loops.take (k.Loops.length - 1)) s.1 s.2) (x, w64 (((k.Loops.take (k.Loops.length - 1)).length : Int) - 1)) = some ⟨x ++ down (blockP k) (k.Loops.length - 1)⟩ := by
  have hlo := h.loops
  have hld := h.loads
  have hal := all_len k
  have hal' : (k.Loads ++ [k.Store]).length = k.Loads.length + 1 := hal
  have hl : (k.Loops.take (k.Loops.length - 1)).length = k.Loops.length - 1 := by rw [List.length_take]; omega
  rw [hl, lm1 (by omega)]
  refine down_loop (blockP k) 63 (x.length + 900) (fun s : (List Instr) × Int => impl_writer_kernel_L5 k k.Loads (k.Loops.take (k.Loops.length - 1)) s.1 s.2) (fun s i => (s, i)) (fun i => block_len h i) (k.Loops.length - 1) x _ (by omega) (fun ys i hi hy => ?_) ?_
  · show impl_writer_kernel_L5 k k.Loads _ ys (i : Int) = _
    have h1 := mvs_len (stepsAt k i) 1
    have h2 := mvs_len (stepsAt k i) (w64 (0 - ix k.Loops (i : Int)))
    have h3 := stepsAt_len k i
    have hi' : i < k.Loops.length := by omega
    have hio : i < (k.Loops.take (k.Loops.length - 1)).length := by omega
    have hix : ix (k.Loops.take (k.Loops.length - 1)) (i : Int) = ix k.Loops (i : Int) := by rw [ix_at hio, ix_at hi', List.getElem_take]
    have e6 : loopM (fun s : (List Instr) × Int => impl_writer_kernel_L6 k k.Loads (i : Int) s.1 s.2) (ys, 0) = some (ys ++ mvs (stepsAt k i) 1) := by
      refine moves_i (stepsAt k i) 1 (fun s : (List Instr) × Int => impl_writer_kernel_L6 k k.Loads (i : Int) s.1 s.2) (fun s i => (s, i)) ys _ (by omega) (by omega) (fun zs j hj hy => ?_) ?_
      · show impl_writer_kernel_L6 k k.Loads (i : Int) zs (j : Int) = _
        have hj' : j < (allA k).length := by omega
        have hsl := h.len _ (ix_mem hj')
        have hst := h.stp _ (ix_mem hj') i hi'
        have q : 0 ≤ (i : Int) ∧ (i : Int) < ((ix (allA k) (j : Int)).Steps.length : Int) := by rw [hsl]; omega
        have hw : (⟨zs⟩ : writer).code.length < CB := hy
        have e : ix (stepsAt k i) (j : Int) = ix (ix (allA k) (j : Int)).Steps (i : Int) := ix_map _ _ _ hj'
        unfold impl_writer_kernel_L6
        rw [if_pos (lt_ hj'), if_pos (inr_ hj'), if_pos q, move_i hw, bind_some', e, Int.mul_one, w64_id (n := ix (ix (allA k) (j : Int)).Steps (i : Int)) (by omega) (by omega)]
      · show impl_writer_kernel_L6 k k.Loads (i : Int) _ ((stepsAt k i).length : Int) = _
        unfold impl_writer_kernel_L6
        rw [h3, ← hal', if_neg (by rw [nlt_]; decide)]
    have e7 : ∀ zs : List Instr, zs.length + 1000000 < CB → loopM (fun s : (List Instr) × Int => impl_writer_kernel_L7 k k.Loads (k.Loops.take (k.Loops.length - 1)) (i : Int) s.1 s.2) (zs, 0) = some (zs ++ mvs (stepsAt k i) (w64 (0 - ix k.Loops (i : Int)))) := fun zs hz => by
      refine moves_i (stepsAt k i) (w64 (0 - ix k.Loops (i : Int))) (fun s : (List Instr) × Int => impl_writer_kernel_L7 k k.Loads (k.Loops.take (k.Loops.length - 1)) (i : Int) s.1 s.2) (fun s i => (s, i)) zs _ (by omega) hz (fun us j hj hy => ?_) ?_
      · show impl_writer_kernel_L7 k k.Loads _ (i : Int) us (j : Int) = _
        have hj' : j < (allA k).length := by omega
        have hsl := h.len _ (ix_mem hj')
        have q : 0 ≤ (i : Int) ∧ (i : Int) < ((ix (allA k) (j : Int)).Steps.length : Int) := by rw [hsl]; omega
        have hw : (⟨us⟩ : writer).code.length < CB := hy
        have e : ix (stepsAt k i) (j : Int) = ix (ix (allA k) (j : Int)).Steps (i : Int) := ix_map _ _ _ hj'
        unfold impl_writer_kernel_L7
        rw [if_pos (lt_ hj'), if_pos (inr_ hj'), if_pos (inr_ hio), if_pos q, hix, e, Int.mul_comm, move_i hw]; rfl
      · show impl_writer_kernel_L7 k k.Loads _ (i : Int) _ ((stepsAt k i).length : Int) = _
        unfold impl_writer_kernel_L7
        rw [h3, ← hal', if_neg (by rw [nlt_]; decide)]
    have hw : (⟨ys ++ mvs (stepsAt k i) 1⟩ : writer).code.length < CB := by show (ys ++ mvs (stepsAt k i) 1).length < _; rw [List.length_append]; omega
    unfold impl_writer_kernel_L5 impl_writer_kernel_J12 impl_writer_kernel_J13
    rw [if_pos (by simp), e6, bind_some', put_i hw, bind_some', e7 _ (by simp only [List.length_append, List.length_singleton]; omega), bind_some', w64_id (n := (i : Int) - 1) (by omega) (by omega)]
    unfold blockP iEnd
    simp only [List.append_assoc]
  · show impl_writer_kernel_L5 k k.Loads _ _ (-1) = _
    unfold impl_writer_kernel_L5; rw [if_neg (by decide)]
theorem take_sub {α : Type} (xs : List α) (n : Nat) : sub xs 0 (n : Int) = xs.take n := by unfold sub; simp
theorem kernel_J2 {p : Plan} {k : Kernel} (h : KC p k) (w : writer) (hw : w.code.length + 20000000 < CB) : impl_writer_kernel_J2 w p k k.Loads (k.Loops.take (k.Loops.length - 1)) (nP k) (stepsP k) = some ⟨w.code ++ kernelP p k⟩ := by
  have hlo := h.loops
  have hld := h.loads
  have h1 := base_len p k
  have h2 := rep_len k
  have h3 := chunks_len (nP k) (bodyP k (stepsP k)) (stepsP k)
  have h4 := mvs_len (stepsP k) (w64 (0 - w64 (w64 ((nP k).tdiv 8) * 8)))
  have h6 := body_len h (stepsP k)
  have h7 := stepsP_len k
  have hal : (k.Loads ++ [k.Store]).length = k.Loads.length + 1 := by simp
  have hL : w64 (((k.Loads ++ [k.Store]).length : Int) - 1) = (k.Loads.length : Int) := by rw [hal, w64_id (by omega) (by omega)]; omega
  obtain ⟨c⟩ := w
  simp only at hw
  have hcl := cat_le (insP (stepsP k)) 1 k.Code 0 (fun i c _ => ins_len (stepsP k) i c)
  have hc2 := h.code2
  unfold impl_writer_kernel_J2
  rw [ki_base h c (by omega), bind_some']
  unfold impl_writer_kernel_J3
  rw [ki_reps h _ (by rw [List.length_append]; omega), bind_some']
  unfold impl_writer_kernel_J4
  rw [body_i h _ h7, bind_some']
  have key : ∀ op : Int, op = (if k.Sum = true then 8 else 7) → impl_writer_kernel_J8 k k.Loads (k.Loops.take (k.Loops.length - 1)) (nP k) (stepsP k) (c ++ baseP p k ++ repP k) (cat (insP (stepsP k)) k.Code 0) op = some ⟨c ++ kernelP p k⟩ := fun op ho => by
    have hwb : (⟨cat (insP (stepsP k)) k.Code 0⟩ : writer).code.length < CB := by show (cat (insP (stepsP k)) k.Code 0).length < _; unfold CB; omega
    unfold impl_writer_kernel_J8
    rw [hL, if_pos (by omega), put_i hwb, bind_some']
    have eb : (⟨(⟨cat (insP (stepsP k)) k.Code 0⟩ : writer).code ++ [⟨op, w64 ((k.Code.length : Int) - 1), (k.Loads.length : Int), ix (stepsP k) (k.Loads.length : Int)⟩]⟩ : writer) = ⟨bodyP k (stepsP k)⟩ := by
      unfold bodyP; rw [ho]
    rw [eb]
    rw [chunks_i (w := ⟨c ++ baseP p k ++ repP k⟩) (nP k) (stepsP k) (bodyP k (stepsP k)) (by omega) (by omega) (by show (c ++ baseP p k ++ repP k).length + _ < _; simp only [List.length_append]; omega), bind_some']
    show (loopM (fun s : (List Instr) × Int => impl_writer_kernel_L4 (nP k) (stepsP k) s.1 s.2) (c ++ baseP p k ++ repP k ++ chunksP (nP k) (bodyP k (stepsP k)) (stepsP k), 0)).bind _ = _
    rw [ki_back h _ (by simp only [List.length_append]; omega), bind_some']
    unfold impl_writer_kernel_J9
    rw [ki_down h _ (by simp only [List.length_append]; omega), bind_some']
    unfold kernelP
    simp only [List.append_assoc]
  unfold impl_writer_kernel_J7
  cases hs : k.Sum with
  | true => simp only [if_true]; exact key 8 (by rw [hs]; rfl)
  | false => simp only [Bool.false_eq_true, if_false]; exact key 7 (by rw [hs]; rfl)
theorem kernel_i {p : Plan} {k : Kernel} (h : KC p k) (w : writer) (hw : w.code.length + 20000000 < CB) : impl_writer_kernel w p k = some ⟨w.code ++ kernelP p k⟩ := by
  have hlo := h.loops
  have hld := h.loads
  have hal : (k.Loads ++ [k.Store]).length = k.Loads.length + 1 := by simp
  unfold impl_writer_kernel slices_Clone_impl_Access_impl_Access
  rw [if_pos (by omega), bind_some', if_pos (by simp only [List.length_singleton]; omega), if_pos (by omega), lm1 (by omega)]
  have hj := kernel_J2 h w hw
  by_cases hz : k.Loops.length = 0
  · rw [if_neg (by simp [hz])]
    have e0 : k.Loops.take (k.Loops.length - 1) = k.Loops := by rw [List.take_of_length_le (by omega)]
    unfold nP stepsP at hj
    rw [if_pos hz, if_pos hz, e0] at hj
    simpa using hj
  · rw [if_pos (by simpa using by omega), if_pos (by omega), if_pos (by omega)]
    have e := mapped_eq h hz
    rw [e, bind_some']
    unfold nP stepsP at hj
    rw [if_neg hz, if_neg hz, show ((k.Loops.length - 1 : Nat) : Int) = (k.Loops.length : Int) - 1 by omega] at hj
    rw [show (k.Loops.length : Int) - 1 = ((k.Loops.length - 1 : Nat) : Int) by omega, take_sub]
    rw [show (k.Loops.length : Int) - 1 = ((k.Loops.length - 1 : Nat) : Int) by omega] at hj
    exact hj
def givB (l : Nest) (b : Int) : Bool := (l.Fixed.any fun f => f.Buffer == b) || decide (b ∈ l.Ins)
structure NB (l : Nest) : Prop where
  sizes : l.Sizes.length ≤ 200
  ins : l.Ins.length ≤ 40
  outs : l.Outs.length ≤ 40
  kers : l.Kernels.length ≤ 400
  fixed : l.Fixed.length ≤ 1048576
  sz : ∀ x ∈ l.Sizes, 0 ≤ x ∧ x ≤ 4096
  ker : ∀ k ∈ l.Kernels, kerB l.Sizes k = true
  giv : ∃ r, impl_Nest_given l = some r ∧ r.1.length = l.Sizes.length ∧ ∀ j : Nat, j < l.Sizes.length → ix r.1 (j : Int) = givB l (j : Int)
theorem givI_app {bs g r : List Int} (h : givI bs g = some r) : r = g ++ bs := by
  induction bs generalizing g with
  | nil => unfold givI at h; injection h with h; simp [h]
  | cons b t ih =>
    unfold givI at h
    split at h
    · cases h
    · rw [ih h, List.append_assoc]; rfl
theorem givF_app {sizes : List Int} {fs : List Fix} {g r : List Int} (h : givF sizes fs g = some r) : r = g ++ fs.map (·.Buffer) := by
  induction fs generalizing g with
  | nil => unfold givF at h; injection h with h; simp [h]
  | cons b t ih =>
    unfold givF at h
    split at h
    · rw [ih h, List.append_assoc]; rfl
    · cases h
theorem nb_of {l : Nest} (h : nestB l = true) (hs : Sm l) : NB l := by
  unfold nestB at h
  simp only [Bool.and_eq_true, decide_eq_true_eq] at h
  obtain ⟨⟨⟨⟨⟨⟨⟨h1, h2⟩, h3⟩, h4⟩, h5⟩, h6⟩, h7⟩, h8⟩ := h
  have hz : ∀ x ∈ l.Sizes, 0 ≤ x ∧ x ≤ 4096 := fun x hx => by
    have := List.all_eq_true.1 h7 x hx
    unfold szB' at this
    simpa using this
  have hf := hs.fixed
  have hd := hs.data
  have hb : l.Ins.length < big ∧ l.Fixed.length < big ∧ ∀ f ∈ l.Fixed, f.Data.length < big := by unfold big; exact ⟨by omega, by omega, fun f hm => by have := hd f hm; omega⟩
  obtain ⟨r, e, q⟩ := given_eq l h1 hb.1 hb.2.1 hb.2.2
  rw [givI_eq, if_pos (show (l.Ins.all fun x => decide (0 ≤ x) && decide (x < (l.Sizes.length : Int))) = true from h5)] at q
  cases hG : (givI l.Ins []).bind (givF l.Sizes l.Fixed) with
  | none => rw [hG] at h8; cases h8
  | some gl =>
    rw [hG] at h8 q
    simp only at h8 q
    cases hI : givI l.Ins [] with
    | none => rw [hI] at hG; cases hG
    | some g1 =>
      rw [hI] at hG
      have e1 := givI_app hI
      have e2 := givF_app (show givF l.Sizes l.Fixed g1 = some gl from hG)
      have eg : gl = l.Ins ++ l.Fixed.map (·.Buffer) := by rw [e2, e1]; simp
      refine ⟨h1, h2, h3, h4, hf, hz, ?_, r, e, q.2.1, fun j hj => ?_⟩
      · cases hS : sumK l.Sizes gl l.Kernels 0 with
        | none => rw [hS] at h8; cases h8
        | some s =>
          have key : ∀ (ks : List Kernel) (a b : Int), sumK l.Sizes gl ks a = some b → ∀ k ∈ ks, kerB l.Sizes k = true := by
            intro ks
            induction ks with
            | nil => intro a b _ k hk; cases hk
            | cons k ks ih =>
              intro a b h k' hk'
              unfold sumK at h
              split at h
              · rename_i hc
                rcases List.mem_cons.1 hk' with rfl | hk'
                · exact hc.1
                · exact ih _ _ h k' hk'
              · cases h
          exact key _ _ _ hS
      · rw [q.2.2 j hj, eg]
        unfold givB
        rw [Bool.eq_iff_iff]
        simp only [decide_eq_true_eq, List.mem_append, List.mem_map, Bool.or_eq_true, List.any_eq_true, beq_iff_eq]
        exact Or.comm
def touch (k : Kernel) (b : Int) : Bool := (k.Store.Buffer == b) || hasB k b
def scanL (b : Int) : List Kernel → Nat → Int × Int → Int × Int
  | [], _, s => s
  | k :: ks, j, s => scanL b ks (j + 1) (if touch k b = true then ((j : Int), if s.2 < 0 then (j : Int) else s.2) else s)
theorem goI_scan (b : Int) (ks : List Kernel) (j : Nat) (s : Int × Int) : goI (S := Int × Int) (R := Int × Int) (fun s j k => .inl (if touch k b = true then ((j : Int), if s.2 < 0 then (j : Int) else s.2) else s)) (fun s => s) ks j s = scanL b ks j s := by
  induction ks generalizing j s with
  | nil => rfl
  | cons k t ih => unfold goI scanL; exact ih _ _
theorem scan_max (b : Int) (ks : List Kernel) (j : Nat) (t f : Int) : (scanL b ks j (if 0 > t then 0 else t, f)).2 = (scanL b ks j (t, f)).2 ∧ (scanL b ks j (if 0 > t then 0 else t, f)).1 = if 0 > (scanL b ks j (t, f)).1 then 0 else (scanL b ks j (t, f)).1 := by
  induction ks generalizing j t f with
  | nil => exact ⟨rfl, rfl⟩
  | cons k ks ih =>
    unfold scanL
    cases touch k b with
    | true =>
      simp only [if_true]
      have := ih (j + 1) (j : Int) (if f < 0 then (j : Int) else f)
      rw [if_neg (by omega)] at this
      exact ⟨trivial, this.2⟩
    | false => simp only [Bool.false_eq_true, if_false]; exact ih (j + 1) t f
theorem scan_bd (b : Int) (ks : List Kernel) (j : Nat) (s : Int × Int) (n : Int) (hn : (j : Int) + ks.length ≤ n) (h1 : -1 ≤ s.1 ∧ s.1 < n) (h2 : -1 ≤ s.2 ∧ s.2 < n) : (-1 ≤ (scanL b ks j s).1 ∧ (scanL b ks j s).1 < n) ∧ (-1 ≤ (scanL b ks j s).2 ∧ (scanL b ks j s).2 < n) := by
  induction ks generalizing j s with
  | nil => exact ⟨h1, h2⟩
  | cons k t ih =>
    simp only [List.length_cons] at hn
    unfold scanL
    refine ih (j + 1) _ (by omega) ?_ ?_ <;> (split <;> (try split) <;> (try simp only) <;> omega)
theorem touches_s (k : Kernel) (b : Int) (h : k.Loads.length ≤ 30) : spec_l12Touches k b = some (touch k b) := by
  unfold spec_l12Touches touch
  cases hc : (k.Store.Buffer == b) with
  | true =>
    rw [show (!true) = false from rfl, gc_f, bind_some']; simp
  | false =>
    rw [show (!false) = true from rfl, gc_t, uses_eq k b (by omega), bind_some']
    congr 1
    have := usesF_nil b k.Loads 0
    unfold hasB
    rw [Bool.false_or, Bool.false_or, Bool.eq_iff_iff, decide_eq_true_eq]
    cases ha : k.Loads.any fun a => a.Buffer == b with
    | true => rw [ha] at this; constructor
              · intro _; rfl
              · intro _; have : ¬ (usesF b k.Loads 0).length = 0 := fun e => by have := this.1 e; cases this
                omega
    | false => rw [ha] at this; constructor
               · intro e; have := this.2 rfl; omega
               · intro e; cases e
def lifeP (l : Nest) (b : Int) : Life × Bool :=
  (⟨b, ix l.Sizes b, if (!givB l b && decide ((scanL b l.Kernels 0 (-1, -1)).2 > 0)) = true then (scanL b l.Kernels 0 (-1, -1)).2 else 0,
    if decide (b ∈ l.Outs) = true then (l.Kernels.length : Int) else if 0 > (scanL b l.Kernels 0 (-1, -1)).1 then 0 else (scanL b l.Kernels 0 (-1, -1)).1⟩,
   decide (ix l.Sizes b > 0) && ((givB l b || decide (b ∈ l.Outs)) || decide ((scanL b l.Kernels 0 (-1, -1)).2 ≥ 0)))
theorem given_s {l : Nest} (h : NB l) (b : Int) : spec_l12Given l b = some (givB l b) := by
  have hf := h.fixed
  have hi := h.ins
  unfold spec_l12Given givB
  have e : loopM (fun s : Int => spec_l12Given_L1 l b s) 0 = some (if (l.Fixed.all fun f => !(f.Buffer == b)) = true then .inr () else .inl true) := by
    refine loop_all l.Fixed (fun s : Int => spec_l12Given_L1 l b s) (fun i => i) (fun f => !(f.Buffer == b)) (.inl true) (.inr ()) (fun k hk => ?_) ?_
    · show spec_l12Given_L1 l b (k : Int) = _
      unfold spec_l12Given_L1
      rw [if_pos (lt_ hk), if_pos (inr_ hk), w64k (by unfold big; omega)]
      cases (ix l.Fixed (k : Int)).Buffer == b <;> rfl
    · show spec_l12Given_L1 l b (l.Fixed.length : Int) = _
      unfold spec_l12Given_L1; rw [if_neg (by rw [nlt_]; decide)]
  rw [e, bind_some']
  have ha : (l.Fixed.all fun f => !(f.Buffer == b)) = !(l.Fixed.any fun f => f.Buffer == b) := by
    rw [Bool.eq_iff_iff]; simp
  rw [ha]
  cases l.Fixed.any fun f => f.Buffer == b with
  | true => rfl
  | false =>
    simp only [Bool.not_false, if_true, Bool.false_or]
    unfold spec_l12Given_J1
    rw [l7Has_eq _ _ (by unfold big; omega)]; rfl
theorem ker_loads {l : Nest} (h : NB l) {k : Kernel} (hk : k ∈ l.Kernels) : k.Loads.length ≤ 30 := (ki_of_ker (h.ker k hk)).loads
theorem life_s {l : Nest} (h : NB l) (b : Nat) (hb : b < l.Sizes.length) : spec_l12Life l (b : Int) = some (lifeP l (b : Int)) := by
  have hk := h.kers
  have ho := h.outs
  unfold spec_l12Life
  rw [if_pos (inr_ hb)]
  have e : loopM (fun s : Int × Int × Int => spec_l12Life_L1 l (b : Int) s.1 s.2.1 s.2.2) ((0 : Int), (-1 : Int), (0 : Int)) = some (scanL (b : Int) l.Kernels 0 (0, -1)) := by
    rw [loop_goI (S := Int × Int) l.Kernels (fun _ _ => True) (fun s : Int × Int × Int => spec_l12Life_L1 l (b : Int) s.1 s.2.1 s.2.2) (fun s i => (s.1, s.2, i)) (fun s j k => .inl (if touch k (b : Int) = true then ((j : Int), if s.2 < 0 then (j : Int) else s.2) else s)) (fun s => s) ?_ (fun _ _ _ _ _ _ => trivial) ?_ (0, -1) trivial, goI_scan]
    · intro s k _ hk'
      show spec_l12Life_L1 l (b : Int) s.1 s.2 (k : Int) = _
      unfold spec_l12Life_L1 spec_l12Life_J3
      rw [if_pos (lt_ hk'), if_pos (inr_ hk'), touches_s _ _ (ker_loads h (ix_mem hk')), bind_some', w64k (by unfold big; omega)]
      cases touch (ix l.Kernels (k : Int)) (b : Int) with
      | false => rfl
      | true =>
        simp only [if_true, decide_eq_true_eq]
        split <;> rfl
    · intro s _
      show spec_l12Life_L1 l (b : Int) s.1 s.2 (l.Kernels.length : Int) = _
      unfold spec_l12Life_L1; rw [if_neg (by rw [nlt_]; decide)]
  rw [e, bind_some']
  have hm := scan_max (b : Int) l.Kernels 0 (-1) (-1)
  rw [if_pos (by decide)] at hm
  unfold spec_l12Life_J4
  rw [l7Has_eq _ _ (by unfold big; omega), bind_some', given_s h, bind_some', hm.1, hm.2]
  unfold spec_l12Life_J5 spec_l12Life_J6 lifeP
  cases decide ((b : Int) ∈ l.Outs) <;> cases givB l (b : Int) <;> cases decide ((scanL (b : Int) l.Kernels 0 (-1, -1)).2 > 0) <;> simp
def liveG (l : Nest) (b : Nat) (_ : Int) : List Life := if (lifeP l (b : Int)).2 = true then [(lifeP l (b : Int)).1] else []
def livesP (l : Nest) : List Life := cat (liveG l) l.Sizes 0
theorem liveG_len (l : Nest) (b : Nat) (x : Int) : (liveG l b x).length ≤ 1 := by unfold liveG; split <;> simp
theorem lives_len {l : Nest} (h : NB l) : (livesP l).length ≤ 200 := by
  have := cat_le (liveG l) 1 l.Sizes 0 (fun b x _ => liveG_len l b x)
  have := h.sizes
  unfold livesP; omega
theorem lives_s {l : Nest} (hn : spec_NestOk l = some true) (h : NB l) : spec_Lives l = some (livesP l) := by
  have hz := h.sizes
  unfold spec_Lives
  rw [hn, bind_some']
  simp only [Bool.not_true, Bool.false_eq_true, if_false]
  have e : loopM (fun s : (List Life) × Int => spec_Lives_L1 l s.1 s.2) ([], 0) = some (livesP l) := by
    refine cat_loop l.Sizes (liveG l) 1 (fun s : (List Life) × Int => spec_Lives_L1 l s.1 s.2) (fun s i => (s, i)) [] _ (fun b x _ => liveG_len l b x) (fun ys k hk hy => ?_) ?_
    · show spec_Lives_L1 l ys (k : Int) = _
      simp only [List.length_nil] at hy
      unfold spec_Lives_L1 spec_Lives_J2 liveG
      rw [if_pos (lt_ hk), life_s h k hk, bind_some', w64k (by unfold big; omega)]
      cases (lifeP l (k : Int)).2 with
      | false => simp
      | true => simp only [if_true]; rw [if_pos (by simp only [List.length_singleton]; omega)]
    · show spec_Lives_L1 l _ (l.Sizes.length : Int) = _
      unfold spec_Lives_L1; rw [if_neg (by rw [nlt_]; decide)]; rfl
  rw [e]; rfl
theorem lives_i {l : Nest} (h : NB l) : impl_Nest_lives l = some (livesP l) := by
  have hz := h.sizes
  have hk := h.kers
  have ho := h.outs
  obtain ⟨r, e1, e2, e3⟩ := h.giv
  unfold impl_Nest_lives
  rw [e1, bind_some']
  have e : loopM (fun s : (List Life) × Int => impl_Nest_lives_L1 l r s.1 s.2) ([], 0) = some (livesP l) := by
    refine cat_loop l.Sizes (liveG l) 1 (fun s : (List Life) × Int => impl_Nest_lives_L1 l r s.1 s.2) (fun s i => (s, i)) [] _ (fun b x _ => liveG_len l b x) (fun ys b hb hy => ?_) ?_
    · show impl_Nest_lives_L1 l r ys (b : Int) = _
      simp only [List.length_nil] at hy
      have es : loopM (fun s : Int × Int × Int => impl_Nest_lives_L2 l (b : Int) s.1 s.2.1 s.2.2) ((-1 : Int), (-1 : Int), (0 : Int)) = some ((scanL (b : Int) l.Kernels 0 (-1, -1)).2, (scanL (b : Int) l.Kernels 0 (-1, -1)).1) := by
        rw [loop_goI (S := Int × Int) l.Kernels (fun _ _ => True) (fun s : Int × Int × Int => impl_Nest_lives_L2 l (b : Int) s.1 s.2.1 s.2.2) (fun s i => (s.2, s.1, i)) (fun s j k => .inl (if touch k (b : Int) = true then ((j : Int), if s.2 < 0 then (j : Int) else s.2) else s)) (fun s => (s.2, s.1)) ?_ (fun _ _ _ _ _ _ => trivial) ?_ (-1, -1) trivial]
        · have : ∀ (ks : List Kernel) (j : Nat) (s : Int × Int), goI (S := Int × Int) (R := Int × Int) (fun s j k => .inl (if touch k (b : Int) = true then ((j : Int), if s.2 < 0 then (j : Int) else s.2) else s)) (fun s => (s.2, s.1)) ks j s = ((scanL (b : Int) ks j s).2, (scanL (b : Int) ks j s).1) := by
            intro ks
            induction ks with
            | nil => intro j s; rfl
            | cons k t ih => intro j s; unfold goI scanL; exact ih _ _
          rw [this]
        · intro s k _ hk'
          show impl_Nest_lives_L2 l (b : Int) s.2 s.1 (k : Int) = _
          obtain ⟨n, g1, g2⟩ := loadsOf_eq (ix l.Kernels (k : Int)) (b : Int) (by have := ker_loads h (ix_mem hk'); omega)
          unfold impl_Nest_lives_L2 impl_Nest_lives_J11 impl_Nest_lives_J12 touch
          rw [if_pos (lt_ hk'), if_pos (inr_ hk'), w64k (by unfold big; omega)]
          cases hc : (ix l.Kernels (k : Int)).Store.Buffer == (b : Int) with
          | true =>
            rw [show (!true) = false from rfl, gc_f, bind_some']
            simp only [Bool.true_or, if_true, decide_eq_true_eq]
            split <;> rfl
          | false =>
            rw [show (!false) = true from rfl, gc_t, g1, bind_some', g2, Bool.false_or]
            cases hasB (ix l.Kernels (k : Int)) (b : Int) with
            | false => rfl
            | true =>
              simp only [if_true, decide_eq_true_eq]
              split <;> rfl
        · intro s _
          show impl_Nest_lives_L2 l (b : Int) s.2 s.1 (l.Kernels.length : Int) = _
          unfold impl_Nest_lives_L2; rw [if_neg (by rw [nlt_]; decide)]
      have hsz := h.sz _ (ix_mem hb)
      have hbd := scan_bd (b : Int) l.Kernels 0 (-1, -1) (l.Kernels.length : Int) (by omega) (by simp only; omega) (by simp only; omega)
      unfold impl_Nest_lives_L1
      rw [if_pos (lt_ hb), if_pos (inr_ hb), es, bind_some']
      unfold impl_Nest_lives_J13
      rw [contains_eq _ _ (by unfold big; omega), bind_some', if_pos (fun _ _ => by rw [e2]; exact inr_ hb), e3 b hb]
      unfold impl_Nest_lives_J16 impl_Nest_lives_J14 impl_Nest_lives_J15 impl_Nest_lives_J16
      rw [w64k (by unfold big; omega)]
      have hlen : ∀ v : Life, ys.length + ([v] : List Life).length ≤ 4398046511104 := fun v => by simp only [List.length_singleton]; omega
      simp only [if_pos (hlen _)]
      have hr : 0 ≤ (b : Int) ∧ (b : Int) < (r.1.length : Int) := by rw [e2]; exact inr_ hb
      unfold liveG lifeP
      simp only []
      generalize scanL (b : Int) l.Kernels 0 (-1, -1) = sc at hbd ⊢
      obtain ⟨t, f⟩ := sc
      simp only at hbd ⊢
      generalize hS : ix l.Sizes (b : Int) = S at hsz ⊢
      by_cases hS0 : S = 0
      · subst hS0; simp
      have q1 : (S == 0) = false := by simpa using hS0
      have q2 : decide (S > 0) = true := by simpa using by omega
      simp only [q1, q2, Bool.false_or, Bool.true_and]
      rw [if_pos hr]
      by_cases hf : f < 0
      · have hf' : f = -1 := by omega
        subst hf'
        cases givB l (b : Int) <;> cases decide ((b : Int) ∈ l.Outs) <;> simp <;> omega
      · have q3 : decide (f < 0) = false := by simpa using by omega
        have q4 : decide (f ≥ 0) = true := by simpa using by omega
        simp only [q3, q4, Bool.false_and, Bool.or_true, if_true, Bool.false_eq_true, if_false]
        by_cases hf1 : f > 0
        · have q5 : decide (f > 0) = true := by simpa using hf1
          have q6 : ¬ 0 > f := by omega
          cases givB l (b : Int) <;> cases decide ((b : Int) ∈ l.Outs) <;> simp [q5, q6] <;> omega
        · have : f = 0 := by omega
          subst this
          cases givB l (b : Int) <;> cases decide ((b : Int) ∈ l.Outs) <;> simp <;> omega
    · show impl_Nest_lives_L1 l r _ (l.Sizes.length : Int) = _
      unfold impl_Nest_lives_L1; rw [if_neg (by rw [nlt_]; decide)]; rfl
  rw [e]; rfl
def okL (x : Life) : Bool := !(((((decide (x.Size < (1 : Int))) || (decide (x.Size > (4096 : Int)))) || (decide (x.From < (0 : Int)))) || (decide (x.From > x.To))) || (decide (x.To > (400 : Int))))
theorem l12Ok_s (ls : List Life) (h : ls.length ≤ 1048576) : spec_l12Ok ls = some (decide (ls.length ≤ 200) && ls.all okL) := by
  unfold spec_l12Ok
  by_cases h2 : ls.length ≤ 200
  · rw [if_neg (by simpa using by omega), loop_all ls (fun s : Int => spec_l12Ok_L1 ls s) (fun i => i) okL (.inl false) (.inr ()) (fun k hk => ?_) ?_]
    · rw [bind_some', decide_eq_true h2, Bool.true_and]
      cases ls.all okL <;> rfl
    · show spec_l12Ok_L1 ls (ls.length : Int) = _
      unfold spec_l12Ok_L1; rw [if_neg (by rw [nlt_]; decide)]
    · show spec_l12Ok_L1 ls (k : Int) = _
      unfold spec_l12Ok_L1 okL
      rw [if_pos (lt_ hk), if_pos (inr_ hk), w64k (by unfold big; omega)]
      split <;> rename_i q <;> simp [q]
  · rw [if_pos (by simpa using by omega), decide_eq_false h2]; rfl
theorem livesOk_i (ls : List Life) (h : ls.length ≤ 1048576) : impl_livesOk ls = some (decide (ls.length ≤ 200) && ls.all okL) := by
  unfold impl_livesOk impl_livesOk_J1
  rw [loop_all ls (fun s : Int => impl_livesOk_L1 ls s) (fun i => i) okL (.inl false) (.inr ()) (fun k hk => ?_) ?_]
  · rw [bind_some']
    have e : decide ((ls.length : Int) ≤ 200) = decide (ls.length ≤ 200) := by rw [Bool.eq_iff_iff]; simp; omega
    cases ls.all okL <;> simp [e]
  · show impl_livesOk_L1 ls (ls.length : Int) = _
    unfold impl_livesOk_L1; rw [if_neg (by rw [nlt_]; decide)]
  · show impl_livesOk_L1 ls (k : Int) = _
    unfold impl_livesOk_L1 okL
    rw [if_pos (lt_ hk), if_pos (inr_ hk), w64k (by unfold big; omega)]
    split <;> rename_i q <;> simp [q]
def overl (ls : List Life) (offs : List Int) (i j : Nat) : Bool :=
  ((decide ((ix ls (i : Int)).From ≤ (ix ls (j : Int)).To) && decide ((ix ls (j : Int)).From ≤ (ix ls (i : Int)).To)) && decide (ix offs (i : Int) < w64 (ix offs (j : Int) + (ix ls (j : Int)).Size))) && decide (ix offs (j : Int) < w64 (ix offs (i : Int) + (ix ls (i : Int)).Size))
theorem overl_comm (ls : List Life) (offs : List Int) (i j : Nat) : overl ls offs i j = overl ls offs j i := by
  unfold overl
  rw [Bool.eq_iff_iff]
  simp only [Bool.and_eq_true, decide_eq_true_eq]
  constructor <;> (rintro ⟨⟨⟨a, b⟩, c⟩, d⟩; exact ⟨⟨⟨b, a⟩, d⟩, c⟩)
def offB (offs : List Int) (i : Nat) : Bool := !(decide (ix offs (i : Int) < 0) || decide (ix offs (i : Int) > 1000000))
def packB (ls : List Life) (offs : List Int) : Bool :=
  ((decide (ls.length ≤ 200) && ls.all okL) && decide (offs.length = ls.length)) && (List.range ls.length).all fun i => offB offs i && (List.range i).all fun j => !overl ls offs i j
theorem neB {a b : Nat} : ((a : Int) != (b : Int)) = !decide (a = b) := by
  rw [Bool.eq_iff_iff]; simp; omega
theorem packOk_i (ls : List Life) (offs : List Int) (h : ls.length ≤ 1048576) : impl_PackOk ls offs = some (packB ls offs) := by
  unfold impl_PackOk packB
  rw [livesOk_i ls h, bind_some', neB]
  cases hB : (decide (ls.length ≤ 200) && ls.all okL) with
  | false => simp
  | true =>
    by_cases hl : offs.length = ls.length
    · rw [if_neg (by simp [hl])]
      have key : loopM (fun s : Int => impl_PackOk_L1 ls offs s) 0 = some (if ((List.range ls.length).all fun i => offB offs i && (List.range i).all fun j => !overl ls offs i j) = true then .inr () else .inl false) := by
        refine loop_allI ls.length (fun s : Int => impl_PackOk_L1 ls offs s) (fun i => i) (fun i => offB offs i && (List.range i).all fun j => !overl ls offs i j) (.inl false) (.inr ()) (fun i hi => ?_) ?_
        · show impl_PackOk_L1 ls offs (i : Int) = _
          unfold impl_PackOk_L1 offB
          rw [if_pos (lt_ hi), if_pos (inr_ hi), if_pos (by omega)]
          by_cases ho : (decide (ix offs (i : Int) < 0) || decide (ix offs (i : Int) > 1000000)) = true
          · rw [if_pos ho, ho]; rfl
          · rw [if_neg ho, if_pos (by omega), Bool.not_eq_true] at *
            have ht : (ls.take i).length = i := by rw [List.length_take]; omega
            have e2 : loopM (fun s : Int => impl_PackOk_L2 ls offs (i : Int) s) 0 = some (if ((List.range i).all fun j => !overl ls offs i j) = true then .inr () else .inl false) := by
              refine loop_allI i (fun s : Int => impl_PackOk_L2 ls offs (i : Int) s) (fun j => j) (fun j => !overl ls offs i j) (.inl false) (.inr ()) (fun j hj => ?_) ?_
              · show impl_PackOk_L2 ls offs (i : Int) (j : Int) = _
                have hx : ix (sub ls 0 (i : Int)) (j : Int) = ix ls (j : Int) := by rw [take_sub, ix_at (by omega), ix_at (by omega), List.getElem_take]
                unfold impl_PackOk_L2 impl_Life_meets overl
                rw [hx, take_sub, ht, if_pos (lt_ hj), if_pos (inr_ hj), bind_some', if_pos (fun _ => by omega), if_pos (fun _ => by omega), w64k (by unfold big; omega)]
                split <;> rename_i q
                · rw [q]; rfl
                · rw [Bool.not_eq_true] at q; rw [q]; rfl
              · show impl_PackOk_L2 ls offs (i : Int) (i : Int) = _
                unfold impl_PackOk_L2; rw [take_sub, ht, if_neg (by rw [nlt_]; decide)]
            rw [e2, bind_some', ho]
            unfold impl_PackOk_J2
            rw [w64k (by unfold big; omega)]
            cases (List.range i).all fun j => !overl ls offs i j <;> rfl
        · show impl_PackOk_L1 ls offs (ls.length : Int) = _
          unfold impl_PackOk_L1; rw [if_neg (by rw [nlt_]; decide)]
      rw [key, bind_some', decide_eq_true hl]
      cases (List.range ls.length).all fun i => offB offs i && (List.range i).all fun j => !overl ls offs i j <;> rfl
    · rw [if_pos (by simp [hl]), decide_eq_false hl]; rfl
theorem free_s (ls : List Life) (offs : List Int) (i : Nat) (hi : i < ls.length) (h : ls.length ≤ 1048576) (hl : offs.length = ls.length) : spec_l12Free ls offs (i : Int) (ix offs (i : Int)) = some ((List.range ls.length).all fun k => (decide (k = i) || decide (ix offs (k : Int) < 0)) || !overl ls offs i k) := by
  unfold spec_l12Free
  rw [loop_allI ls.length (fun s : Int => spec_l12Free_L1 ls offs (i : Int) (ix offs (i : Int)) s) (fun k => k) (fun k => (decide (k = i) || decide (ix offs (k : Int) < 0)) || !overl ls offs i k) (.inl false) (.inr ()) (fun k hk => ?_) ?_]
  · rw [bind_some']
    cases (List.range ls.length).all fun k => (decide (k = i) || decide (ix offs (k : Int) < 0)) || !overl ls offs i k <;> rfl
  · show spec_l12Free_L1 ls offs (i : Int) _ (ls.length : Int) = _
    unfold spec_l12Free_L1; rw [if_neg (by rw [nlt_]; decide)]
  · show spec_l12Free_L1 ls offs (i : Int) _ (k : Int) = _
    have e : ((k : Int) == (i : Int)) = decide (k = i) := by rw [Bool.eq_iff_iff]; simp; omega
    unfold spec_l12Free_L1 spec_l12Free_J2 spec_l12Meet overl
    rw [if_pos (lt_ hk), if_pos (fun _ => by omega), if_pos (fun _ => by omega), if_pos (fun _ => by omega), e, w64k (by unfold big; omega)]
    cases hc : (decide (k = i) || decide (ix offs (k : Int) < 0)) with
    | true => rw [show (!true) = false from rfl, gc_f, bind_some']; simp
    | false =>
      rw [show (!false) = true from rfl, gc_t, bind_some', Bool.false_or]
      cases hm : (decide ((ix ls (i : Int)).From ≤ (ix ls (k : Int)).To) && decide ((ix ls (k : Int)).From ≤ (ix ls (i : Int)).To)) with
      | false => simp
      | true =>
        rw [if_neg (by decide), if_pos (by omega), if_pos (by omega), if_pos (fun _ => by omega), Bool.true_and]
        split <;> rename_i q
        · rw [q]; rfl
        · rw [Bool.not_eq_true] at q; rw [q]; rfl
theorem packOk_s (ls : List Life) (offs : List Int) (h : ls.length ≤ 1048576) : spec_PackOk ls offs = some (packB ls offs) := by
  unfold spec_PackOk packB
  rw [l12Ok_s ls h, bind_some', neB]
  cases hB : (decide (ls.length ≤ 200) && ls.all okL) with
  | false => simp
  | true =>
    by_cases hl : offs.length = ls.length
    · rw [if_neg (by simp [hl])]
      have k1 : loopM (fun s : Int => spec_PackOk_L1 ls offs s) 0 = some (if ((List.range ls.length).all fun i => offB offs i) = true then .inr () else .inl false) := by
        refine loop_allI ls.length (fun s : Int => spec_PackOk_L1 ls offs s) (fun i => i) (fun i => offB offs i) (.inl false) (.inr ()) (fun i hi => ?_) ?_
        · show spec_PackOk_L1 ls offs (i : Int) = _
          unfold spec_PackOk_L1 offB
          rw [if_pos (lt_ hi), if_pos (by omega), w64k (by unfold big; omega)]
          split <;> rename_i q
          · rw [q]; rfl
          · rw [Bool.not_eq_true] at q; rw [q]; rfl
        · show spec_PackOk_L1 ls offs (ls.length : Int) = _
          unfold spec_PackOk_L1; rw [if_neg (by rw [nlt_]; decide)]
      have k2 : loopM (fun s : Int => spec_PackOk_L2 ls offs s) 0 = some (if ((List.range ls.length).all fun i => (List.range ls.length).all fun k => (decide (k = i) || decide (ix offs (k : Int) < 0)) || !overl ls offs i k) = true then .inr () else .inl false) := by
        refine loop_allI ls.length (fun s : Int => spec_PackOk_L2 ls offs s) (fun i => i) (fun i => (List.range ls.length).all fun k => (decide (k = i) || decide (ix offs (k : Int) < 0)) || !overl ls offs i k) (.inl false) (.inr ()) (fun i hi => ?_) ?_
        · show spec_PackOk_L2 ls offs (i : Int) = _
          unfold spec_PackOk_L2
          rw [if_pos (lt_ hi), if_pos (by omega), free_s ls offs i hi h hl, bind_some', w64k (by unfold big; omega)]
          cases (List.range ls.length).all fun k => (decide (k = i) || decide (ix offs (k : Int) < 0)) || !overl ls offs i k <;> rfl
        · show spec_PackOk_L2 ls offs (ls.length : Int) = _
          unfold spec_PackOk_L2; rw [if_neg (by rw [nlt_]; decide)]
      rw [k1, bind_some', decide_eq_true hl]
      have e : ((List.range ls.length).all fun i => offB offs i && (List.range i).all fun j => !overl ls offs i j) = (((List.range ls.length).all fun i => offB offs i) && ((List.range ls.length).all fun i => (List.range ls.length).all fun k => (decide (k = i) || decide (ix offs (k : Int) < 0)) || !overl ls offs i k)) := by
        rw [Bool.eq_iff_iff]
        simp only [Bool.and_eq_true, List.all_eq_true, List.mem_range, Bool.or_eq_true, decide_eq_true_eq]
        constructor
        · intro q
          refine ⟨fun i hi => (q i hi).1, fun i hi k hk => ?_⟩
          rcases Nat.lt_trichotomy k i with c | c | c
          · exact .inr ((q i hi).2 k c)
          · exact .inl (.inl c)
          · right; rw [overl_comm]; exact (q k hk).2 i c
        · rintro ⟨q1, q2⟩ i hi
          refine ⟨q1 i hi, fun j hj => ?_⟩
          have hjl : j < ls.length := by omega
          rcases q2 i hi j hjl with (c | c) | c
          · omega
          · have := q1 j hjl
            unfold offB at this
            simp only [Bool.not_eq_true', Bool.or_eq_false_iff, decide_eq_false_iff_not] at this
            omega
          · exact c
      rw [e]
      unfold spec_PackOk_J1
      rw [k2, bind_some']
      cases (List.range ls.length).all fun i => offB offs i with
      | false => rfl
      | true =>
        cases (List.range ls.length).all fun i => (List.range ls.length).all fun k => (decide (k = i) || decide (ix offs (k : Int) < 0)) || !overl ls offs i k <;> rfl
    · rw [if_pos (by simp [hl]), decide_eq_false hl]; rfl
theorem cat_mem {α β : Type} {g : Nat → α → List β} {xs : List α} {k : Nat} {y : β} (h : y ∈ cat g xs k) : ∃ (j : Nat) (hj : j < xs.length), y ∈ g (k + j) xs[j] := by
  induction xs generalizing k with
  | nil => cases h
  | cons x t ih =>
    unfold cat at h
    rcases List.mem_append.1 h with h | h
    · exact ⟨0, by simp, h⟩
    · obtain ⟨j, hj, q⟩ := ih h
      exact ⟨j + 1, by simpa using hj, by simpa [show k + (j + 1) = k + 1 + j by omega] using q⟩
theorem lives_mem {l : Nest} {a : Life} (h : a ∈ livesP l) : ∃ b : Nat, b < l.Sizes.length ∧ a = (lifeP l (b : Int)).1 ∧ (lifeP l (b : Int)).2 = true := by
  obtain ⟨j, hj, q⟩ := cat_mem h
  unfold liveG at q
  rw [Nat.zero_add] at q
  split at q
  · exact ⟨j, hj, List.mem_singleton.1 q, by assumption⟩
  · cases q
theorem goI_all {α β R : Type} (p : α → Bool) (h : α → β) (fin : List β → R) (ra : R) (xs : List α) (j : Nat) (s : List β) :
    goI (S := List β) (fun s _ x => if p x = true then .inl (s ++ [h x]) else .inr ra) fin xs j s = if xs.all p = true then fin (s ++ xs.map h) else ra := by
  induction xs generalizing j s with
  | nil => simp [goI]
  | cons x t ih =>
    unfold goI
    cases hp : p x with
    | false => simp [hp]
    | true => simp only [if_true, List.all_cons, hp, Bool.true_and, List.map_cons]; rw [ih]; simp
theorem goI_all2 {α β γ R : Type} (p : α → Bool) (h : α → β) (u : γ → α → γ) (fin : List β × γ → R) (ra : R) (xs : List α) (j : Nat) (s : List β × γ) :
    goI (S := List β × γ) (fun s _ x => if p x = true then .inl (s.1 ++ [h x], u s.2 x) else .inr ra) fin xs j s = if xs.all p = true then fin (s.1 ++ xs.map h, xs.foldl u s.2) else ra := by
  induction xs generalizing j s with
  | nil => simp [goI]
  | cons x t ih =>
    unfold goI
    cases hp : p x with
    | false => simp [hp]
    | true => simp only [if_true, List.all_cons, hp, Bool.true_and, List.map_cons, List.foldl_cons]; rw [ih]; simp
def okO (p : Plan) (a : Life) : Bool := !(((decide (ix p.Offsets a.Buffer < (0 : Int))) || (decide (ix p.Offsets a.Buffer > (1000000 : Int)))) || (decide (w64 (ix p.Offsets a.Buffer + a.Size) > p.Arena)))
def planB (p : Plan) : Bool :=
  !((((!nestB p.Nest) || !decide (p.Offsets.length = p.Nest.Sizes.length)) || decide (p.Arena < 0)) || decide (p.Arena > 1000000)) && ((livesP p.Nest).all (okO p) && (((List.range p.Offsets.length).all fun b => !(!(lifeP p.Nest (b : Int)).2 && (ix p.Offsets (b : Int) != -1))) && packB (livesP p.Nest) ((livesP p.Nest).map fun a => ix p.Offsets a.Buffer)))
theorem planOk_s (p : Plan) (hs : Sm p.Nest) (ho : p.Offsets.length ≤ 1048576) : spec_PlanOk p = some (planB p) := by
  have hn := spec_nest_eq p.Nest hs
  unfold spec_PlanOk planB
  rw [hn, bind_some', neB]
  by_cases hc : ((((!nestB p.Nest) || !decide (p.Offsets.length = p.Nest.Sizes.length)) || decide (p.Arena < 0)) || decide (p.Arena > 1000000)) = true
  · rw [if_pos hc, hc]; rfl
  rw [if_neg hc, Bool.not_eq_true] at *
  rw [hc]
  simp only [Bool.or_eq_false_iff, Bool.not_eq_false', decide_eq_true_eq] at hc
  obtain ⟨⟨⟨c1, c2⟩, c3⟩, c4⟩ := hc
  have hb := nb_of c1 hs
  have hll := lives_len hb
  rw [lives_s (by rw [hn, c1]) hb, bind_some']
  have k1 : loopM (fun s : (List Int) × Int => spec_PlanOk_L1 p (livesP p.Nest) s.1 s.2) ([], 0) = some (if (livesP p.Nest).all (okO p) = true then .inr ((livesP p.Nest).map fun a => ix p.Offsets a.Buffer) else .inl false) := by
    rw [loop_goI (S := List Int) (livesP p.Nest) (fun k s => s.length ≤ k) (fun s : (List Int) × Int => spec_PlanOk_L1 p (livesP p.Nest) s.1 s.2) (fun s i => (s, i)) (fun s _ a => if okO p a = true then .inl (s ++ [ix p.Offsets a.Buffer]) else .inr (.inl false)) (fun s => .inr s) ?_ ?_ ?_ [] (by simp), goI_all]
    · rfl
    · intro s k hI hk
      show spec_PlanOk_L1 p (livesP p.Nest) s (k : Int) = _
      obtain ⟨b, g1, g2, _⟩ := lives_mem (ix_mem hk)
      have gb : (ix (livesP p.Nest) (k : Int)).Buffer = (b : Int) := by rw [g2]; rfl
      unfold spec_PlanOk_L1 okO
      rw [if_pos (lt_ hk), if_pos (inr_ hk), if_pos (by rw [gb]; omega), w64k (by unfold big; omega)]
      split <;> rename_i q
      · rw [q]; rfl
      · rw [Bool.not_eq_true] at q; rw [q, if_pos (by simp only [List.length_singleton]; omega)]; rfl
    · intro s k s' hI hk hst
      (try simp only at hst)
      split at hst
      · injection hst with hst; subst hst; simp; omega
      · cases hst
    · intro s _
      show spec_PlanOk_L1 p (livesP p.Nest) s ((livesP p.Nest).length : Int) = _
      unfold spec_PlanOk_L1; rw [if_neg (by rw [nlt_]; decide)]
  have k2 : loopM (fun s : Int => spec_PlanOk_L2 p s) 0 = some (if ((List.range p.Offsets.length).all fun b => !(!(lifeP p.Nest (b : Int)).2 && (ix p.Offsets (b : Int) != -1))) = true then .inr () else .inl false) := by
    refine loop_allI p.Offsets.length (fun s : Int => spec_PlanOk_L2 p s) (fun i => i) (fun b => !(!(lifeP p.Nest (b : Int)).2 && (ix p.Offsets (b : Int) != -1))) (.inl false) (.inr ()) (fun b hbl => ?_) ?_
    · show spec_PlanOk_L2 p (b : Int) = _
      unfold spec_PlanOk_L2
      rw [if_pos (lt_ hbl), life_s hb b (by omega), bind_some', if_pos (fun _ => inr_ hbl), w64k (by unfold big; omega)]
      split <;> rename_i q
      · rw [q]; rfl
      · rw [Bool.not_eq_true] at q; rw [q]; rfl
    · show spec_PlanOk_L2 p (p.Offsets.length : Int) = _
      unfold spec_PlanOk_L2; rw [if_neg (by rw [nlt_]; decide)]
  rw [k1, bind_some']
  cases (livesP p.Nest).all (okO p) with
  | false => rfl
  | true =>
    simp only [if_true]
    unfold spec_PlanOk_J1
    rw [k2, bind_some']
    cases (List.range p.Offsets.length).all fun b => !(!(lifeP p.Nest (b : Int)).2 && (ix p.Offsets (b : Int) != -1)) with
    | false => rfl
    | true =>
      simp only [if_true]
      unfold spec_PlanOk_J2
      rw [packOk_s _ _ (by omega)]; rfl
theorem alive_fold (l : Nest) : ∀ (xs : List Int) (k : Nat) (al : List Bool), k + xs.length ≤ al.length → ∀ b : Nat, b < al.length →
    ((cat (liveG l) xs k).foldl (fun al a => al.set a.Buffer.toNat true) al).length = al.length ∧
    ix ((cat (liveG l) xs k).foldl (fun al a => al.set a.Buffer.toNat true) al) (b : Int) = if k ≤ b ∧ b < k + xs.length then ((lifeP l (b : Int)).2 || ix al (b : Int)) else ix al (b : Int) := by
  intro xs
  induction xs with
  | nil => intro k al _ b hb; refine ⟨rfl, ?_⟩; rw [if_neg (by simp only [List.length_nil]; omega)]; rfl
  | cons x t ih =>
    intro k al hk b hb
    simp only [List.length_cons] at hk
    unfold cat
    rw [List.foldl_append]
    by_cases hl : (lifeP l (k : Int)).2 = true
    · have e : (liveG l k x).foldl (fun al a => al.set a.Buffer.toNat true) al = al.set k true := by
        unfold liveG; rw [if_pos hl]; rfl
      rw [e]
      obtain ⟨g1, g2⟩ := ih (k + 1) (al.set k true) (by simp; omega) b (by simpa using hb)
      rw [List.length_set] at g1
      refine ⟨g1, ?_⟩
      rw [g2, List.length_cons]
      by_cases hbk : b = k
      · subst hbk
        rw [if_neg (by omega), if_pos (by omega), hl, ix_set hb]; rfl
      · rw [ix_set_ne (fun e => hbk e.symm)]
        by_cases hr : k + 1 ≤ b ∧ b < k + 1 + t.length
        · rw [if_pos hr, if_pos (by omega)]
        · rw [if_neg hr, if_neg (by omega)]
    · have e : (liveG l k x).foldl (fun al a => al.set a.Buffer.toNat true) al = al := by
        unfold liveG; rw [if_neg hl]; rfl
      rw [e]
      obtain ⟨g1, g2⟩ := ih (k + 1) al (by omega) b hb
      refine ⟨g1, ?_⟩
      rw [g2, List.length_cons]
      by_cases hbk : b = k
      · subst hbk
        rw [Bool.not_eq_true] at hl
        rw [if_neg (by omega), if_pos (by omega), hl]; rfl
      · by_cases hr : k + 1 ≤ b ∧ b < k + 1 + t.length
        · rw [if_pos hr, if_pos (by omega)]
        · rw [if_neg hr, if_neg (by omega)]
theorem planOk_i (p : Plan) (hs : Sm p.Nest) (ho : p.Offsets.length ≤ 1048576) : impl_PlanOk p = some (planB p) := by
  have hn := impl_nest_eq p.Nest hs
  unfold impl_PlanOk planB
  rw [hn, bind_some', neB]
  by_cases hc : ((((!nestB p.Nest) || !decide (p.Offsets.length = p.Nest.Sizes.length)) || decide (p.Arena < 0)) || decide (p.Arena > 1000000)) = true
  · rw [if_pos hc, hc]; rfl
  rw [if_neg hc, Bool.not_eq_true] at *
  rw [hc]
  simp only [Bool.or_eq_false_iff, Bool.not_eq_false', decide_eq_true_eq] at hc
  obtain ⟨⟨⟨c1, c2⟩, c3⟩, c4⟩ := hc
  have hb := nb_of c1 hs
  have hll := lives_len hb
  rw [lives_i hb, bind_some', if_pos (by omega)]
  have k1 : loopM (fun s : (List Int) × (List Bool) × Int => impl_PlanOk_L1 p (livesP p.Nest) s.1 s.2.1 s.2.2) ([], List.replicate (p.Offsets.length : Int).toNat false, 0) = some (if (livesP p.Nest).all (okO p) = true then .inr ((livesP p.Nest).map fun a => ix p.Offsets a.Buffer, (livesP p.Nest).foldl (fun al a => al.set a.Buffer.toNat true) (List.replicate p.Offsets.length false)) else .inl false) := by
    rw [loop_goI (S := (List Int) × (List Bool)) (livesP p.Nest) (fun k s => s.1.length ≤ k ∧ s.2.length = p.Offsets.length) (fun s : (List Int) × (List Bool) × Int => impl_PlanOk_L1 p (livesP p.Nest) s.1 s.2.1 s.2.2) (fun s i => (s.1, s.2, i)) (fun s _ a => if okO p a = true then .inl (s.1 ++ [ix p.Offsets a.Buffer], s.2.set a.Buffer.toNat true) else .inr (.inl false)) (fun s => .inr s) ?_ ?_ ?_ ([], List.replicate (p.Offsets.length : Int).toNat false) (by simp), goI_all2 (okO p) (fun a => ix p.Offsets a.Buffer) (fun (al : List Bool) (a : Life) => al.set a.Buffer.toNat true)]
    · rfl
    · intro s k hI hk
      show impl_PlanOk_L1 p (livesP p.Nest) s.1 s.2 (k : Int) = _
      obtain ⟨b, g1, g2, _⟩ := lives_mem (ix_mem hk)
      have gb : (ix (livesP p.Nest) (k : Int)).Buffer = (b : Int) := by rw [g2]; rfl
      have h2 := hI.2
      have h1 := hI.1
      unfold impl_PlanOk_L1 okO
      rw [if_pos (lt_ hk), if_pos (inr_ hk), if_pos (by rw [gb]; omega), if_pos (by rw [gb]; omega), w64k (by unfold big; omega)]
      split <;> rename_i q
      · rw [q]; rfl
      · rw [Bool.not_eq_true] at q; rw [q, if_pos (by simp only [List.length_singleton]; omega)]; rfl
    · intro s k s' hI hk hst
      (try simp only at hst)
      split at hst
      · injection hst with hst; subst hst
        have h1 := hI.1
        exact ⟨by simp; omega, by simpa using hI.2⟩
      · cases hst
    · intro s _
      show impl_PlanOk_L1 p (livesP p.Nest) s.1 s.2 ((livesP p.Nest).length : Int) = _
      unfold impl_PlanOk_L1; rw [if_neg (by rw [nlt_]; decide)]
  have hal : ∀ b : Nat, b < p.Offsets.length → ((livesP p.Nest).foldl (fun al a => al.set a.Buffer.toNat true) (List.replicate p.Offsets.length false)).length = p.Offsets.length ∧ ix ((livesP p.Nest).foldl (fun al a => al.set a.Buffer.toNat true) (List.replicate p.Offsets.length false)) (b : Int) = (lifeP p.Nest (b : Int)).2 := fun b hbl => by
    have := alive_fold p.Nest p.Nest.Sizes 0 (List.replicate p.Offsets.length false) (by simp; omega) b (by simpa using hbl)
    rw [List.length_replicate] at this
    refine ⟨this.1, ?_⟩
    rw [show livesP p.Nest = cat (liveG p.Nest) p.Nest.Sizes 0 from rfl, this.2, if_pos (by omega), ix_at (by simpa using hbl)]; simp
  generalize (livesP p.Nest).foldl (fun al a => al.set a.Buffer.toNat true) (List.replicate p.Offsets.length false) = al at k1 hal
  have k2 : loopM (fun s : Int => impl_PlanOk_L2 p al s) 0 = some (if ((List.range p.Offsets.length).all fun b => !(!(lifeP p.Nest (b : Int)).2 && (ix p.Offsets (b : Int) != -1))) = true then .inr () else .inl false) := by
    refine loop_allI p.Offsets.length (fun s : Int => impl_PlanOk_L2 p al s) (fun i => i) (fun b => !(!(lifeP p.Nest (b : Int)).2 && (ix p.Offsets (b : Int) != -1))) (.inl false) (.inr ()) (fun b hbl => ?_) ?_
    · show impl_PlanOk_L2 p al (b : Int) = _
      obtain ⟨g1, g2⟩ := hal b hbl
      unfold impl_PlanOk_L2
      rw [if_pos (lt_ hbl), if_pos (inr_ hbl), if_pos (by omega), g2, w64k (by unfold big; omega)]
      split <;> rename_i q
      · rw [q]; rfl
      · rw [Bool.not_eq_true] at q; rw [q]; rfl
    · show impl_PlanOk_L2 p al (p.Offsets.length : Int) = _
      unfold impl_PlanOk_L2; rw [if_neg (by rw [nlt_]; decide)]
  rw [k1, bind_some']
  cases (livesP p.Nest).all (okO p) with
  | false => rfl
  | true =>
    simp only [if_true]
    unfold impl_PlanOk_J1
    rw [k2, bind_some']
    cases (List.range p.Offsets.length).all fun b => !(!(lifeP p.Nest (b : Int)).2 && (ix p.Offsets (b : Int) != -1)) with
    | false => rfl
    | true =>
      simp only [if_true]
      unfold impl_PlanOk_J2
      rw [packOk_i _ _ (by omega)]; rfl
def bornC (l : Nest) (t b : Nat) : Bool := ((lifeP l (b : Int)).2 && ((lifeP l (b : Int)).1.From == (t : Int))) && !givB l (b : Int)
def bornL (l : Nest) (t : Nat) : List Int := cat (fun b _ => if bornC l t b = true then [(b : Int)] else []) l.Sizes 0
def fromL (l : Nest) (t : Nat) (ls : List Life) : List Int := (ls.filter fun a => !givB l a.Buffer && (a.From == (t : Int))).map (·.Buffer)
theorem fromL_cat (l : Nest) (t : Nat) (xs : List Int) (k : Nat) : fromL l t (cat (liveG l) xs k) = cat (fun b _ => if bornC l t b = true then [(b : Int)] else []) xs k := by
  induction xs generalizing k with
  | nil => rfl
  | cons x xs ih =>
    unfold cat
    have e : ∀ a b : List Life, fromL l t (a ++ b) = fromL l t a ++ fromL l t b := fun a b => by unfold fromL; rw [List.filter_append, List.map_append]
    rw [e, ih]
    congr 1
    unfold liveG fromL bornC
    have hB : (lifeP l (k : Int)).1.Buffer = (k : Int) := rfl
    cases hl : (lifeP l (k : Int)).2 with
    | false => simp
    | true =>
      simp only [if_true, Bool.true_and, List.filter_cons, hB, List.filter_nil]
      cases givB l (k : Int) <;> cases ((lifeP l (k : Int)).1.From == (t : Int)) <;> simp [hB]
theorem map_set {α : Type} (n i : Nat) (G G' : Nat → α) (v : α) (hi : G' i = v) (hne : ∀ t, t ≠ i → G' t = G t) : ((List.range n).map G).set i v = (List.range n).map G' := by
  refine List.ext_getElem (by simp) fun j h1 h2 => ?_
  simp only [List.length_set, List.length_map, List.length_range] at h1
  rw [List.getElem_set]
  by_cases e : i = j
  · subst e; rw [if_pos rfl]; simp [hi]
  · rw [if_neg e]; simp [hne j (fun q => e q.symm)]
theorem from_bd {l : Nest} (b : Int) : 0 ≤ (lifeP l b).1.From ∧ (lifeP l b).1.From < (l.Kernels.length : Int) + 1 := by
  have := scan_bd b l.Kernels 0 (-1, -1) (l.Kernels.length : Int) (by omega) (by simp only; omega) (by simp only; omega)
  unfold lifeP
  simp only
  split
  · rename_i q
    simp only [Bool.and_eq_true, decide_eq_true_eq] at q
    omega
  · omega
theorem born_i (p : Plan) (h : NB p.Nest) : ∃ tb, impl_Plan_born p = some tb ∧ tb.length = p.Nest.Kernels.length + 1 ∧ ∀ t : Nat, t ≤ p.Nest.Kernels.length → ix tb (t : Int) = bornL p.Nest t := by
  have hk := h.kers
  have hz := h.sizes
  have hll := lives_len h
  obtain ⟨r, e1, e2, e3⟩ := h.giv
  refine ⟨(List.range (p.Nest.Kernels.length + 1)).map fun t => bornL p.Nest t, ?_, by simp, fun t ht => ?_⟩
  · unfold impl_Plan_born
    have hw : w64 ((p.Nest.Kernels.length : Int) + 1) = ((p.Nest.Kernels.length + 1 : Nat) : Int) := by rw [w64k (by unfold big; omega)]
    rw [e1, bind_some', hw, if_pos (by omega), lives_i h, bind_some']
    have e0 : ((List.replicate ((p.Nest.Kernels.length + 1 : Nat) : Int).toNat ([] : List Int), (0 : Int)) : (List (List Int)) × Int) = (fun j : Nat => ((List.range (p.Nest.Kernels.length + 1)).map fun t => fromL p.Nest t ((livesP p.Nest).take j), (j : Int))) 0 := by
      simp only [List.take_zero, Int.toNat_natCast]
      refine Prod.ext ?_ rfl
      simp only
      refine List.ext_getElem (by simp) fun j h1 h2 => ?_
      simp [fromL]
    rw [e0]
    have el : loopM (fun s : (List (List Int)) × Int => impl_Plan_born_L1 p r (livesP p.Nest) s.1 s.2) ((fun j : Nat => ((List.range (p.Nest.Kernels.length + 1)).map fun t => fromL p.Nest t ((livesP p.Nest).take j), (j : Int))) 0) = some ((List.range (p.Nest.Kernels.length + 1)).map fun t => bornL p.Nest t) := by
      refine loop_seq (livesP p.Nest).length (fun s : (List (List Int)) × Int => impl_Plan_born_L1 p r (livesP p.Nest) s.1 s.2) (fun j : Nat => ((List.range (p.Nest.Kernels.length + 1)).map fun t => fromL p.Nest t ((livesP p.Nest).take j), (j : Int))) _ (fun j hj => ?_) ?_
      · show impl_Plan_born_L1 p r (livesP p.Nest) _ (j : Int) = some (Sum.inl ((List.range (p.Nest.Kernels.length + 1)).map fun t => fromL p.Nest t ((livesP p.Nest).take (j + 1)), ((j + 1 : Nat) : Int)))
        obtain ⟨b, g1, g2, g3⟩ := lives_mem (ix_mem hj)
        have gb : (ix (livesP p.Nest) (j : Int)).Buffer = (b : Int) := by rw [g2]; rfl
        have gf : 0 ≤ (ix (livesP p.Nest) (j : Int)).From ∧ (ix (livesP p.Nest) (j : Int)).From < (p.Nest.Kernels.length : Int) + 1 := by rw [g2]; exact from_bd _
        have ht : ∀ t, fromL p.Nest t ((livesP p.Nest).take (j + 1)) = fromL p.Nest t ((livesP p.Nest).take j) ++ (if (!givB p.Nest (b : Int) && ((ix (livesP p.Nest) (j : Int)).From == (t : Int))) = true then [(b : Int)] else []) := fun t => by
          rw [List.take_succ_eq_append_getElem hj, ← ix_at hj]
          unfold fromL
          rw [List.filter_append, List.map_append]
          congr 1
          rw [List.filter_cons, gb]
          cases (!givB p.Nest (b : Int) && ((ix (livesP p.Nest) (j : Int)).From == (t : Int))) <;> simp [gb]
        unfold impl_Plan_born_L1 impl_Plan_born_J2
        rw [if_pos (lt_ hj), if_pos (inr_ hj), gb, if_pos (by omega), e3 b g1, show w64 ((j : Int) + 1) = ((j + 1 : Nat) : Int) from w64k (by unfold big; omega)]
        obtain ⟨f, hf⟩ := Int.eq_ofNat_of_zero_le gf.1
        cases hg : givB p.Nest (b : Int) with
        | true =>
          rw [if_neg (by decide)]
          congr 3
          refine List.map_congr_left fun t _ => ?_
          rw [ht, hg]; simp
        | false =>
          have hfl : f < p.Nest.Kernels.length + 1 := by omega
          have hxf : ix ((List.range (p.Nest.Kernels.length + 1)).map fun t => fromL p.Nest t ((livesP p.Nest).take j)) (f : Int) = fromL p.Nest f ((livesP p.Nest).take j) := by
            rw [ix_at (by simpa using hfl)]; simp
          have hlen : (fromL p.Nest f ((livesP p.Nest).take j)).length ≤ 200 := by
            unfold fromL
            rw [List.length_map]
            have := List.length_filter_le (fun a : Life => !givB p.Nest a.Buffer && (a.From == (f : Int))) ((livesP p.Nest).take j)
            rw [List.length_take] at this; omega
          rw [if_pos (by decide), hf, if_pos (by simp; omega), hxf, if_pos (by simp only [List.length_singleton]; omega)]
          unfold nm
          rw [bind_some', Int.toNat_natCast]
          congr 3
          refine map_set _ f (fun t => fromL p.Nest t ((livesP p.Nest).take j)) (fun t => fromL p.Nest t ((livesP p.Nest).take (j + 1))) _ ?_ (fun t ht' => ?_)
          · show fromL p.Nest f ((livesP p.Nest).take (j + 1)) = _
            rw [ht, hg, hf]; simp
          · show fromL p.Nest t ((livesP p.Nest).take (j + 1)) = fromL p.Nest t ((livesP p.Nest).take j)
            rw [ht, hg, hf]
            have : ((f : Int) == (t : Int)) = false := by simpa using by omega
            rw [this]; simp
      · show impl_Plan_born_L1 p r (livesP p.Nest) _ ((livesP p.Nest).length : Int) = _
        unfold impl_Plan_born_L1
        rw [if_neg (by rw [nlt_]; decide), List.take_length]
        congr 2
        refine List.map_congr_left fun t _ => ?_
        exact fromL_cat p.Nest t p.Nest.Sizes 0
    rw [el]; rfl
  · rw [ix_at (by simp; omega)]; simp
def birthP (p : Plan) (b : Int) : List Instr := [⟨3, 0, ix p.Offsets b, 0⟩, ⟨9, 0, 0, 0⟩] ++ chunksP (ix p.Nest.Sizes b) [⟨7, 0, 0, 1⟩] [1]
theorem birth_len (p : Plan) (b : Int) : (birthP p b).length ≤ 9 := by
  have := chunks_len (ix p.Nest.Sizes b) [⟨7, 0, 0, 1⟩] [1]
  unfold birthP
  simp only [List.length_append, List.length_cons, List.length_nil] at *; omega
def birthG (p : Plan) (t b : Nat) : List Instr := if bornC p.Nest t b = true then birthP p (b : Int) else []
theorem birthG_len (p : Plan) (t b : Nat) : (birthG p t b).length ≤ 9 := by
  unfold birthG; split
  · exact birth_len p _
  · simp
def birthsP (p : Plan) (t : Nat) : List Instr := cat (fun b _ => birthG p t b) p.Nest.Sizes 0
theorem cat_only {α β γ : Type} (f : Nat → List γ) (xs : List α) (ys : List β) (k : Nat) (h : xs.length = ys.length) : cat (fun b _ => f b) xs k = cat (fun b _ => f b) ys k := by
  induction xs generalizing ys k with
  | nil => cases ys with
    | nil => rfl
    | cons y t => cases h
  | cons x xs ih => cases ys with
    | nil => cases h
    | cons y t => unfold cat; rw [ih t (k + 1) (by simpa using h)]
theorem births_len {p : Plan} (h : NB p.Nest) (t : Nat) : (birthsP p t).length ≤ 1800 := by
  have := cat_le (fun b _ => birthG p t b) 9 p.Nest.Sizes 0 (fun b _ _ => birthG_len p t b)
  have := h.sizes
  unfold birthsP; omega
theorem births_s {p : Plan} (h : NB p.Nest) (hp : p.Offsets.length = p.Nest.Sizes.length) (t : Nat) (x : List Instr) (hx : x.length ≤ 100000000) : loopM (fun s : (List Instr) × Int => spec_Compile_L2 p (t : Int) s.1 s.2) (x, 0) = some (x ++ birthsP p t) := by
  have hz := h.sizes
  refine cat_loop p.Offsets (fun b _ => birthG p t b) 9 (fun s : (List Instr) × Int => spec_Compile_L2 p (t : Int) s.1 s.2) (fun s i => (s, i)) x _ (fun b _ _ => birthG_len p t b) (fun ys b hb hy => ?_) ?_
  · show spec_Compile_L2 p (t : Int) ys (b : Int) = _
    have hc := birth_len p (b : Int)
    unfold birthP at hc
    rw [List.length_append] at hc
    unfold spec_Compile_L2 spec_Compile_J6 birthG bornC
    rw [if_pos (lt_ hb), life_s h b (by omega), bind_some', w64k (by unfold big; omega)]
    cases hq : ((lifeP p.Nest (b : Int)).2 && ((lifeP p.Nest (b : Int)).1.From == (t : Int))) with
    | false => rw [gc_f, bind_some']; simp
    | true =>
      rw [gc_t, given_s h, bind_some', Bool.true_and]
      cases givB p.Nest (b : Int) with
      | true => simp
      | false =>
        have hS : (lifeP p.Nest (b : Int)).1.Size = ix p.Nest.Sizes (b : Int) := rfl
        rw [if_pos (by decide), if_pos (inr_ hb), if_pos (by simp only [List.length_cons, List.length_nil]; omega), hS, chunks_s _ _ _ (by simp) (by simp), bind_some', if_pos (by simp only [List.length_append, List.length_cons, List.length_nil] at *; omega)]
        simp [birthP]
  · show spec_Compile_L2 p (t : Int) _ (p.Offsets.length : Int) = _
    unfold spec_Compile_L2
    rw [if_neg (by rw [nlt_]; decide), cat_only (fun b => birthG p t b) p.Offsets p.Nest.Sizes 0 hp]; rfl
theorem cat_bind {α β : Type} (c : Nat → Bool) (f : Int → List β) (xs : List α) (k j : Nat) : cat (fun _ b => f b) (cat (fun b (_ : α) => if c b = true then [(b : Int)] else []) xs k) j = cat (fun b (_ : α) => if c b = true then f (b : Int) else []) xs k := by
  induction xs generalizing k j with
  | nil => rfl
  | cons x t ih =>
    simp only [cat]
    cases c k with
    | false => simp only [Bool.false_eq_true, if_false, List.nil_append]; exact ih _ _
    | true => simp only [if_true, List.singleton_append, cat]; rw [ih]
theorem born_mem {l : Nest} {t : Nat} {b : Int} (h : b ∈ bornL l t) : 0 ≤ b ∧ b < (l.Sizes.length : Int) := by
  obtain ⟨j, hj, q⟩ := cat_mem h
  rw [Nat.zero_add] at q
  split at q
  · rw [List.mem_singleton.1 q]; omega
  · cases q
theorem born_len {l : Nest} (h : NB l) (t : Nat) : (bornL l t).length ≤ 200 := by
  have := cat_le (fun b (_ : Int) => if bornC l t b = true then [(b : Int)] else []) 1 l.Sizes 0 (fun b _ _ => by split <;> simp)
  have := h.sizes
  unfold bornL; omega
theorem births_i {p : Plan} (h : NB p.Nest) (hp : p.Offsets.length = p.Nest.Sizes.length) (tb : List (List Int)) (t : Nat) (ht : ix tb (t : Int) = bornL p.Nest t) (x : List Instr) (hx : x.length ≤ 100000000) : loopM (fun s : (List Instr) × Int => impl_compiled_L2 p tb (t : Int) s.1 s.2) (x, 0) = some (x ++ birthsP p t) := by
  have hz := h.sizes
  have hbl := born_len h t
  have hCB : CB = 4000000000000 := rfl
  refine cat_loop (bornL p.Nest t) (fun _ b => birthP p b) 9 (fun s : (List Instr) × Int => impl_compiled_L2 p tb (t : Int) s.1 s.2) (fun s i => (s, i)) x _ (fun _ b _ => birth_len p b) (fun ys j hj hy => ?_) ?_
  · show impl_compiled_L2 p tb (t : Int) ys (j : Int) = _
    have hm := born_mem (ix_mem hj)
    have w1 : (⟨ys⟩ : writer).code.length < CB := by show ys.length < _; omega
    have w2 : ∀ v : Instr, (⟨(⟨ys⟩ : writer).code ++ [v]⟩ : writer).code.length < CB := fun v => by show (ys ++ [v]).length < _; simp only [List.length_append, List.length_singleton]; omega
    unfold impl_compiled_L2
    rw [ht, if_pos (lt_ hj), if_pos (inr_ hj), if_pos (by omega), put_i w1, bind_some', put_i (w2 _), bind_some', if_pos (by omega), chunks_i _ _ _ (by simp) (by simp) (by show ((ys ++ [_]) ++ [_]).length + _ < _; simp only [List.length_append, List.length_singleton]; omega), bind_some', w64k (by unfold big; omega)]
    simp [birthP]
  · show impl_compiled_L2 p tb (t : Int) _ ((bornL p.Nest t).length : Int) = _
    unfold impl_compiled_L2
    rw [ht, if_neg (by rw [nlt_]; decide)]
    unfold bornL birthsP
    rw [cat_bind (bornC p.Nest t) (birthP p) p.Nest.Sizes 0 0]; rfl
def codeT (p : Plan) (t : Nat) : List Instr := birthsP p t ++ (if t < p.Nest.Kernels.length then kernelP p (ix p.Nest.Kernels (t : Int)) else [])
def codeUp (p : Plan) : Nat → List Instr
  | 0 => []
  | t + 1 => codeUp p t ++ codeT p t
def rounds (p : Plan) : Nat := if p.Nest.Kernels.length > 1 then p.Nest.Kernels.length else 1
def compileP (p : Plan) : List Instr × Bool := if (codeUp p (rounds p)).length > 60000 then ([], false) else (codeUp p (rounds p), true)
theorem codeT_len {p : Plan} (h : NB p.Nest) (hp : p.Offsets.length = p.Nest.Sizes.length) (t : Nat) : (codeT p t).length ≤ 3800 := by
  have := births_len h t
  unfold codeT
  rw [List.length_append]
  split
  · rename_i ht
    have := kernel_len (kc_of (h.ker _ (ix_mem ht)) hp)
    omega
  · simp; omega
theorem codeUp_len {p : Plan} (h : NB p.Nest) (hp : p.Offsets.length = p.Nest.Sizes.length) (t : Nat) : (codeUp p t).length ≤ t * 3800 := by
  induction t with
  | zero => simp [codeUp]
  | succ t ih => have := codeT_len h hp t; unfold codeUp; rw [List.length_append]; omega
theorem compile_s {p : Plan} (h : NB p.Nest) (hp : p.Offsets.length = p.Nest.Sizes.length) : (loopM (fun s : (List Instr) × Int => spec_Compile_L1 p s.1 s.2) (([] : List Instr), (0 : Int))).bind (fun e => spec_Compile_J9 e) = some (compileP p) := by
  have hk := h.kers
  have hr : rounds p ≤ 400 := by unfold rounds; split <;> omega
  have e : loopM (fun s : (List Instr) × Int => spec_Compile_L1 p s.1 s.2) ((fun t : Nat => (codeUp p t, (t : Int))) 0) = some (codeUp p (rounds p)) := by
    refine loop_seq (rounds p) (fun s : (List Instr) × Int => spec_Compile_L1 p s.1 s.2) (fun t : Nat => (codeUp p t, (t : Int))) _ (fun t ht => ?_) ?_
    · show spec_Compile_L1 p (codeUp p t) (t : Int) = some (Sum.inl (codeUp p t ++ codeT p t, ((t + 1 : Nat) : Int)))
      have hl := codeUp_len h hp t
      have hbl := births_len h t
      have hc : (((t : Int) == 0) || decide ((t : Int) < (p.Nest.Kernels.length : Int))) = true := by
        unfold rounds at ht
        rw [Bool.or_eq_true, beq_iff_eq, decide_eq_true_eq]
        split at ht <;> omega
      unfold spec_Compile_L1
      rw [if_pos hc, births_s h hp t _ (by omega), bind_some']
      unfold spec_Compile_J7 spec_Compile_J8 codeT
      rw [w64k (by unfold big; omega)]
      by_cases hlt : t < p.Nest.Kernels.length
      · have hkc := kc_of (h.ker _ (ix_mem hlt)) hp
        have := kernel_len hkc
        rw [if_pos (lt_ hlt), if_pos (inr_ hlt), kernel_s hkc, bind_some', if_pos (by rw [List.length_append]; omega), if_pos hlt, List.append_assoc]
      · rw [if_neg (by simpa using by omega), if_neg hlt, List.append_nil]
    · show spec_Compile_L1 p (codeUp p (rounds p)) (rounds p : Int) = _
      unfold spec_Compile_L1
      rw [if_neg]
      unfold rounds
      rw [Bool.or_eq_true, beq_iff_eq, decide_eq_true_eq]
      split <;> omega
  have e' : loopM (fun s : (List Instr) × Int => spec_Compile_L1 p s.1 s.2) (([] : List Instr), (0 : Int)) = some (codeUp p (rounds p)) := e
  rw [e', bind_some']
  unfold spec_Compile_J9 compileP
  by_cases hc : (codeUp p (rounds p)).length > 60000
  · rw [if_pos (by simpa using by omega), if_pos hc]
  · rw [if_neg (by simpa using by omega), if_neg hc]
theorem loop_stop {T R : Type} (N : Nat) (f : T → Option (T ⊕ R)) (st : Nat → T) (bad : Nat → Bool) (r0 r1 : R) (h1 : ∀ t, t < N → f (st t) = some (if bad (t + 1) = true then .inr r0 else .inl (st (t + 1)))) (hm : ∀ t, bad t = true → bad (t + 1) = true) (h2 : f (st N) = some (.inr r1)) (h0 : bad 0 = false) : loopM f (st 0) = some (if bad N = true then r0 else r1) := by
  have mono : ∀ d t, bad t = true → bad (t + d) = true := by
    intro d
    induction d with
    | zero => intro t h; exact h
    | succ d ih => intro t h; exact hm _ (ih t h)
  have key : ∀ (m k : Nat), k + m = N → bad k = false → loopM f (st k) = some (if bad N = true then r0 else r1) := by
    intro m
    induction m with
    | zero =>
      intro k hk hb
      have : k = N := by omega
      subst this
      rw [loopM_end h2, hb]; rfl
    | succ m ih =>
      intro k hk hb
      have e := h1 k (by omega)
      cases hb' : bad (k + 1) with
      | true =>
        rw [hb', if_pos rfl] at e
        have := mono (N - (k + 1)) (k + 1) hb'
        rw [show k + 1 + (N - (k + 1)) = N by omega] at this
        rw [loopM_end e, this]; rfl
      | false =>
        rw [hb', if_neg (by decide)] at e
        rw [loopM_next e]
        exact ih (k + 1) (by omega) hb'
  exact key N 0 (by omega) h0
theorem compiled_i {p : Plan} (h : NB p.Nest) (hp : p.Offsets.length = p.Nest.Sizes.length) : impl_compiled p = some (compileP p) := by
  have hk := h.kers
  have hr : rounds p ≤ 400 := by unfold rounds; split <;> omega
  obtain ⟨tb, e1, e2, e3⟩ := born_i p h
  unfold impl_compiled
  rw [e1, bind_some']
  have hrr : (if (p.Nest.Kernels.length : Int) > (1 : Int) then (p.Nest.Kernels.length : Int) else (1 : Int)) = (rounds p : Int) := by
    unfold rounds; split <;> split <;> omega
  have hrk : rounds p ≤ p.Nest.Kernels.length + 1 := by unfold rounds; split <;> omega
  have e : loopM (fun s : (List Instr) × Int => impl_compiled_L1 p tb s.1 s.2) ((fun t : Nat => (codeUp p t, (t : Int))) 0) = some (if decide ((codeUp p (rounds p)).length > 60000) = true then .inl ([], false) else .inr (codeUp p (rounds p))) := by
    refine loop_stop (rounds p) (fun s : (List Instr) × Int => impl_compiled_L1 p tb s.1 s.2) (fun t : Nat => (codeUp p t, (t : Int))) (fun t => decide ((codeUp p t).length > 60000)) (.inl ([], false)) (.inr (codeUp p (rounds p))) (fun t ht => ?_) (fun t hb => ?_) ?_ (by simp [codeUp])
    · show impl_compiled_L1 p tb (codeUp p t) (t : Int) = _
      have hl := codeUp_len h hp t
      have hbl := births_len h t
      have hCB : CB = 4000000000000 := rfl
      unfold impl_compiled_L1
      rw [hrr, if_pos (lt_ ht), if_pos (by omega), births_i h hp tb t (e3 t (by omega)) _ (by omega), bind_some']
      have hJ : impl_compiled_J3 p (t : Int) (codeUp p t ++ birthsP p t) = impl_compiled_J4 (t : Int) (codeUp p (t + 1)) := by
        show _ = impl_compiled_J4 (t : Int) (codeUp p t ++ codeT p t)
        unfold impl_compiled_J3 codeT
        by_cases hlt : t < p.Nest.Kernels.length
        · have hkc := kc_of (h.ker _ (ix_mem hlt)) hp
          have := kernel_len hkc
          rw [if_pos (lt_ hlt), if_pos (inr_ hlt), kernel_i hkc _ (by show (codeUp p t ++ birthsP p t).length + _ < _; rw [List.length_append]; omega), bind_some', if_pos hlt, List.append_assoc]
        · rw [if_neg (by simpa using by omega), if_neg hlt, List.append_nil]
      rw [hJ]
      unfold impl_compiled_J4
      rw [w64k (by unfold big; omega)]
      by_cases hc : (codeUp p (t + 1)).length > 60000
      · rw [if_pos (by simpa using by omega), if_pos (by simpa using hc)]
      · rw [if_neg (by simpa using by omega), if_neg (by simpa using hc)]
    · simp only [decide_eq_true_eq] at hb ⊢
      unfold codeUp; rw [List.length_append]; omega
    · show impl_compiled_L1 p tb (codeUp p (rounds p)) (rounds p : Int) = _
      unfold impl_compiled_L1
      rw [hrr, if_neg (by rw [nlt_]; decide)]
  have e' : loopM (fun s : (List Instr) × Int => impl_compiled_L1 p tb s.1 s.2) (([] : List Instr), (0 : Int)) = _ := e
  rw [e', bind_some']
  unfold compileP impl_compiled_J5
  by_cases hc : (codeUp p (rounds p)).length > 60000
  · rw [if_pos (by simpa using hc), if_pos hc]
  · rw [if_neg (by simpa using hc), if_neg hc]
def compB (p : Plan) : List Instr × Bool := if planB p = true then compileP p else ([], false)
theorem plan_nb {p : Plan} (hs : Sm p.Nest) (h : planB p = true) : NB p.Nest ∧ p.Offsets.length = p.Nest.Sizes.length := by
  unfold planB at h
  simp only [Bool.and_eq_true, Bool.not_eq_true', Bool.or_eq_false_iff, Bool.not_eq_false', decide_eq_true_eq] at h
  exact ⟨nb_of h.1.1.1.1 hs, h.1.1.1.2⟩
theorem Compile_s (p : Plan) (hs : Sm p.Nest) (ho : p.Offsets.length ≤ 1048576) : spec_Compile p = some (compB p) := by
  unfold spec_Compile compB
  rw [planOk_s p hs ho, bind_some']
  cases hb : planB p with
  | false => rfl
  | true =>
    obtain ⟨h1, h2⟩ := plan_nb hs hb
    simp only [Bool.not_true, Bool.false_eq_true, if_false, if_true]
    exact compile_s h1 h2
theorem Compile_i (p : Plan) (hs : Sm p.Nest) (ho : p.Offsets.length ≤ 1048576) : impl_Compile p = some (compB p) := by
  unfold impl_Compile compB
  rw [planOk_i p hs ho, bind_some']
  cases hb : planB p with
  | false => rfl
  | true =>
    obtain ⟨h1, h2⟩ := plan_nb hs hb
    simp only [Bool.not_true, Bool.false_eq_true, if_false, if_true]
    rw [compiled_i h1 h2]; rfl
theorem eqInstr_rfl (x : Instr) : laws_eqInstr x x = some true := by
  unfold laws_eqInstr; rw [bne_self_i, bne_self_i, bne_self_i, bne_self_i]; rfl
theorem eqInstrS_rfl (xs : List Instr) (hl : xs.length ≤ 1048576) : laws_eqInstrS xs xs = some true := by
  unfold laws_eqInstrS
  rw [bne_self_i, eqL_rfl xs (fun s : Int => laws_eqInstrS_L1 xs xs s) hl laws_eqInstr (fun x hx => eqInstr_rfl x) (fun _ => rfl)]; rfl
def gIn (x : Instr) (k : Nat) : Instr := ⟨(k : Int), ((k + 1 : Nat) : Int), ((k + 1 + 1 : Nat) : Int), ((k + 1 + 1 + 1 : Nat) : Int)⟩
theorem markIn_eq (xs : List Instr) (k : Nat) (hl : xs.length ≤ 1048576) (h : k + 4 * xs.length ≤ BB) : ∃ ys, laws_markInstrS xs (k : Int) = some (((k + 4 * xs.length : Nat) : Int), ys) ∧ laws_heldInstrS ys (k : Int) = some ((k + 4 * xs.length : Nat) : Int) := by
  obtain ⟨ys, y1, y2, y3⟩ := mark_loop (U := Int × Int) xs (fun _ => 4) gIn (fun s : (List Instr) × Int × Int => laws_markInstrS_L1 xs s.1 s.2.1 s.2.2) (fun ys k i => (ys, k, i)) (fun ys k i hi hy hx hk => by
    show laws_markInstrS_L1 xs ys (k : Int) (i : Int) = _
    have hiy : i < ys.length := by omega
    unfold laws_markInstrS_L1 gIn
    rw [if_pos (lt_ hi), if_pos (inr_ hi), wi hl hi, wn (by omega), wn (by omega), wn (by omega), wn (by omega), Int.toNat_natCast]
    simp only [nm_bind, ix_set hiy, List.set_set, hx]) (fun ys k => by
    show laws_markInstrS_L1 xs ys k (xs.length : Int) = _
    unfold laws_markInstrS_L1; simp only [nlt_, Bool.false_eq_true, if_false]) k (by rw [cnt_one]; omega)
  rw [cnt_one] at y1 y3
  refine ⟨ys, by unfold laws_markInstrS; rw [y1, bind_some']; rfl, ?_⟩
  unfold laws_heldInstrS
  rw [y3 (fun s : Int × Int => laws_heldInstrS_L1 ys s.1 s.2) (fun k i => (k, i)) (fun k i hi hk hz => by
    show laws_heldInstrS_L1 ys (k : Int) (i : Int) = _
    unfold laws_heldInstrS_L1
    rw [if_pos (lt_ (by omega)), if_pos (inr_ (by omega)), hz, wi hl hi, wn (by omega), wn (by omega), wn (by omega), wn (by omega)]
    unfold gIn
    simp only [bne_self_i, Bool.false_eq_true, if_false]) (fun k => by
    show laws_heldInstrS_L1 ys k (xs.length : Int) = _
    rw [← y2]
    unfold laws_heldInstrS_L1; simp only [nlt_, Bool.false_eq_true, if_false])]
  rfl
theorem sm_bounds2 (l : Nest) (h : Sm l) : 1 + l.Sizes.length + l.Ins.length + cnt nF l.Fixed + cnt nK l.Kernels + l.Outs.length + 1048576 ≤ BB := by
  have h1 := h.sizes
  have h2 := h.ins
  have h3 := h.outs
  have h4 := cnt_bd nF 1048577 l.Fixed (fun x hx => by have := h.data x hx; unfold nF; omega) h.fixed
  have h5 := cnt_bd nK 1099518967811 l.Kernels (fun x hx => by
    have k := h.ker hx
    have a := cnt_bd nA 1048578 x.Loads (fun a ha => by have := k.steps a ha; unfold nA; omega) k.loads
    have := k.loops
    have := k.store
    have := k.code
    unfold nK
    omega) h.kers
  unfold BB
  omega
theorem markP_eq (p : Plan) (h : Sm p.Nest) (ho : p.Offsets.length ≤ 1048576) : ∃ (m : Nat) (r : (List Int) × (List Int) × (List Fix) × (List Kernel) × (List Int) × (List Int)), laws_markPlan p 1 = some ((m : Int), r) := by
  have hb := sm_bounds2 p.Nest h
  have a1 := markI_eq p.Nest.Sizes 1 h.sizes (by omega)
  have a2 := markI_eq p.Nest.Ins (1 + p.Nest.Sizes.length) h.ins (by omega)
  have a3 := markF_eq p.Nest.Fixed (1 + p.Nest.Sizes.length + p.Nest.Ins.length) h.fixed h.data (by omega)
  have a4 := markK_eq p.Nest.Kernels (1 + p.Nest.Sizes.length + p.Nest.Ins.length + cnt nF p.Nest.Fixed) h.kers (fun k hk => h.ker hk) (by omega)
  have a5 := markI_eq p.Nest.Outs (1 + p.Nest.Sizes.length + p.Nest.Ins.length + cnt nF p.Nest.Fixed + cnt nK p.Nest.Kernels) h.outs (by omega)
  have a6 := markI_eq p.Offsets (1 + p.Nest.Sizes.length + p.Nest.Ins.length + cnt nF p.Nest.Fixed + cnt nK p.Nest.Kernels + p.Nest.Outs.length) ho (by omega)
  have e1 : ((1 : Nat) : Int) = 1 := rfl
  rw [e1] at a1
  refine ⟨1 + p.Nest.Sizes.length + p.Nest.Ins.length + cnt nF p.Nest.Fixed + cnt nK p.Nest.Kernels + p.Nest.Outs.length + p.Offsets.length, (mkI p.Nest.Sizes 1, mkI p.Nest.Ins (1 + p.Nest.Sizes.length), mkF p.Nest.Fixed (1 + p.Nest.Sizes.length + p.Nest.Ins.length), mkK p.Nest.Kernels (1 + p.Nest.Sizes.length + p.Nest.Ins.length + cnt nF p.Nest.Fixed), mkI p.Nest.Outs (1 + p.Nest.Sizes.length + p.Nest.Ins.length + cnt nF p.Nest.Fixed + cnt nK p.Nest.Kernels), mkI p.Offsets (1 + p.Nest.Sizes.length + p.Nest.Ins.length + cnt nF p.Nest.Fixed + cnt nK p.Nest.Kernels + p.Nest.Outs.length)), ?_⟩
  unfold laws_markPlan laws_markNest
  rw [a1.1, bind_some', a2.1, bind_some', a3.1, bind_some', a4.1, bind_some', a5.1, bind_some', bind_some']
  simp only []
  rw [a6.1, bind_some']
def nPlan (p : Plan) : Nat := nNest p.Nest + p.Offsets.length
theorem szPlan_eq {x : Plan} {left : Int} (hc : CapN x.Nest) (ho : x.Offsets.length ≤ lim) (h0 : 0 ≤ left) (h1 : left ≤ 1048576) : laws_szPlan x left = some (szR (nPlan x) left) := by
  unfold laws_szPlan nPlan
  rw [szNest_eq hc h0 h1, bind_some', szR_add h0]
  by_cases h : szR (nNest x.Nest) left < 0
  · simp [h]
  · obtain ⟨q1, q2, _⟩ := szR_le h0 h
    rw [if_neg (by simpa using h), szIntS_eq ho q1 (by omega), bind_some', if_neg h]
    exact ifneg (fun q => szR_neg q1 q)
theorem toPlan_eq (p : Plan) (h : Sm p.Nest) (ho : p.Offsets.length ≤ 1048576) : laws_toPlan p = some p := by
  unfold laws_toPlan
  rw [toNest_eq _ h, bind_some', toIntS_eq _ ho]; rfl
theorem eqPlan_rfl (p : Plan) (h : Sm p.Nest) (ho : p.Offsets.length ≤ 1048576) : laws_eqPlan p p = some true := by
  unfold laws_eqPlan
  rw [eqNest_rfl _ h, bind_some', eqI_rfl _ ho, bind_some', bne_self_i]; rfl
theorem comp_len {p : Plan} : (compB p).1.length ≤ 60000 := by
  unfold compB compileP
  split
  · split
    · simp
    · simp only; omega
  · simp
theorem law_compile (aP : Plan) (hc : CapN aP.Nest) (ho : aP.Offsets.length ≤ lim) : laws_FnExactCompile aP = some true := by
  unfold laws_FnExactCompile
  rw [szPlan_eq hc ho (by decide) (by decide), bind_some']
  by_cases hn : szR (nPlan aP) 1048576 < 0
  · rw [if_pos (by simpa using hn)]
  rw [if_neg (by simpa using hn)]
  have hle : nPlan aP ≤ 1048576 := by
    unfold szR at hn
    split at hn <;> rename_i q
    · exact absurd (by decide) hn
    · omega
  unfold nPlan at hle
  have hs := sm_of_n (l := aP.Nest) (by omega)
  have ho' : aP.Offsets.length ≤ 1048576 := by omega
  have hl := comp_len (p := aP)
  obtain ⟨m1, x1, f1⟩ := markP_eq aP hs ho'
  obtain ⟨ys, f2, f3⟩ := markIn_eq (compB aP).1 1 (by omega) (by unfold BB; omega)
  have e1 : ((1 : Nat) : Int) = 1 := rfl
  rw [e1] at f2 f3
  have hq : ((compB aP).2 == (compB aP).2) = true := by simp
  have he := eqInstrS_rfl (compB aP).1 (by omega)
  rw [toPlan_eq aP hs ho', bind_some', Compile_s aP hs ho', bind_some', bind_some', Compile_i aP hs ho', bind_some', he, bind_some', hq]
  simp only [Bool.not_true, Bool.or_self, Bool.false_eq_true, if_false]
  rw [bind_some', eqPlan_rfl aP hs ho', bind_some']
  simp only [Bool.not_true, Bool.false_eq_true, if_false]
  rw [f1, bind_some', nonneg_]
  simp only [Bool.not_false, gc_t, he, bind_some', Bool.not_true, Bool.or_self, Bool.false_eq_true, if_false]
  rw [f2, bind_some']
  simp only []
  rw [f3, bind_some', nonneg_, Compile_i aP hs ho', bind_some', he, bind_some', hq]
  simp only [bind_some', nonneg_, bne_self_i, Bool.not_true, Bool.or_self, Bool.false_eq_true, if_false]
end Go.Proofs.Ytbdchgofcejiiaa
