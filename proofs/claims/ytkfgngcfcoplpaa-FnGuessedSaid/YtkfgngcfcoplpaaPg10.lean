import Derived.Test.YtkfgngcfcoplpaaPg9
set_option linter.unusedVariables false
set_option linter.unusedSimpArgs false
namespace Go.Pg
section
variable {X : Cx} {V : List HP} {σ : Env} {Q : Exit → Env → World → Prop} {ops : Array Oper} {rest : List Oper}
variable {d : Option Nat} {ty : TypeId} {pos : String} {af : Array Edge} {gd : Option (Nat × Bool)}
variable {α β : Type}
def bound (σ : Env) (o : Option Operand) (other l : Int) : Prop := match o with
  | some x => ev σ x = .int .i64 l
  | none => l = other
theorem run_sbound {P : Program} {w : World} {l : Int} {y : Nat} {code : BoundsCode} (h0 : 0 ≤ l) (h1 : l ≤ y) : (Instr.sliceBound (.int .i64 l) y code).run P w = .ok l.toNat w := by
  simp [Instr.sliceBound, asIntOf, h0, h1]
theorem run_sbounds {P : Program} {w : World} {is : Bool} {n c : Nat} {lo hi : Option Operand} {l h : Int} (hlo : bound σ lo 0 l) (hhi : bound σ hi n h) (h0 : 0 ≤ l) (h1 : l ≤ h) (h2 : h ≤ n) (hc : n ≤ c) :
    (Instr.sliceBounds is n c (lo.map (ev σ)) (hi.map (ev σ)) none).run P w = .ok (l.toNat, h.toNat, c) w := by
  have el : ∀ y : Nat, l ≤ y → (Instr.sliceBound (.int .i64 l) y .sliceB).run P w = .ok l.toNat w := fun y hy => run_sbound h0 hy
  cases hi with
  | none =>
    have : h = n := hhi
    subst this
    cases lo with
    | none =>
      have : l = 0 := hlo
      subst this
      simp [Instr.sliceBounds]
    | some x =>
      have hx : ev σ x = .int .i64 l := hlo
      simp [Instr.sliceBounds, hx, el n h1]
  | some y =>
    have hy : ev σ y = .int .i64 h := hhi
    have eh : ∀ code, (Instr.sliceBound (.int .i64 h) c code).run P w = .ok h.toNat w := fun code => run_sbound (by omega) (by omega)
    cases lo with
    | none =>
      have : l = 0 := hlo
      subst this
      simp [Instr.sliceBounds, hy, eh]
    | some x =>
      have hx : ev σ x = .int .i64 l := hlo
      simp [Instr.sliceBounds, hx, hy, eh, el h.toNat (by omega)]
theorem bsize (s : Str) : (⟨s.toArray⟩ : ByteArray).size = s.length := by show s.toArray.size = _; simp
def cutA (a : Option Addr) (c l sz : Nat) : Option Addr := if c = l then a else a.map (·.add (l * sz))
theorem run_slice {P : Program} {w : World} {t e : TypeId} {x : Operand} {a : Option Addr} {n c sz : Nat} {lo hi : Option Operand} {l h : Int} (ht : slB P t = some e) (hs : szB P e = some sz) (hx : ev σ x = .slice a n c)
    (hlo : bound σ lo 0 l) (hhi : bound σ hi n h) (h0 : 0 ≤ l) (h1 : l ≤ h) (h2 : h ≤ n) (hc : n ≤ c) :
    (execOp (ev σ) ⟨d, .slice t x lo hi none, ty, pos, af, gd⟩).run P w = .ok (.value (.slice (cutA a c l.toNat sz) (h.toNat - l.toNat) (c - l.toNat))) w := by
  have hu := slB_eq ht
  have hb := run_sbounds (P := P) (w := w) (is := true) hlo hhi h0 h1 h2 hc
  simp only [execOp, Instr.sliceAt, hx, Sem.run_bind, run_underlying hu, Result.andThen_ok, Instr.slice, Option.map_none, hb, run_sizeOf hs, Sem.run_pure, cutA]
theorem sub_len {xs : List α} {l h : Int} (h0 : 0 ≤ l) (h1 : l ≤ h) (h2 : h ≤ xs.length) : (sub xs l h).length = h.toNat - l.toNat := by
  simp [sub]; omega
theorem sub_get {xs : List α} {l h : Int} (h0 : 0 ≤ l) (h1 : l ≤ h) (h2 : h ≤ xs.length) {j : Nat} {x : α} (hx : (sub xs l h)[j]? = some x) : xs[l.toNat + j]? = some x := by
  simp only [sub, List.getElem?_drop, List.getElem?_take] at hx
  split at hx
  · exact hx
  · cases hx
theorem rdS_sub {K : Kind α} {I : Hp} {a : Option Addr} {n c : Nat} {xs : List α} {l h : Int} (r : rdS K I (.slice a n c) xs) (h0 : 0 ≤ l) (h1 : l ≤ h) (h2 : h ≤ n) : rdS K I (.slice (cutA a c l.toNat K.sz) (h.toNat - l.toNat) (c - l.toNat)) (sub xs l h) := by
  obtain ⟨A, c', hv, hn, hm, hc⟩ := r
  injection hv with e1 e2 e3
  subst e1; subst e3; subst e2
  have hl := sub_len h0 h1 h2
  refine ⟨_, _, by rw [hl], by rw [hl]; omega, by rw [hl]; omega, fun hp => ?_⟩
  rw [hl] at hp
  obtain ⟨g, o, rfl, hcell⟩ := hc (by omega)
  refine ⟨g, o + l.toNat * K.sz, ?_, fun j x hx => ?_⟩
  · unfold cutA
    rw [if_neg (by omega)]
    simp [add_eq]
  · obtain ⟨cs, p, q⟩ := hcell _ x (sub_get h0 h1 h2 hx)
    refine ⟨cs, p, fun i u hu => ?_⟩
    have := q i u hu
    rw [Nat.add_mul] at this
    rw [show o + l.toNat * K.sz + j * K.sz + i = o + (l.toNat * K.sz + j * K.sz) + i by omega]
    exact this
theorem l_cut {K : Kind α} {t e : TypeId} {x : Operand} {a : Option Addr} {n c : Nat} {lo hi : Option Operand} {xs : List α} (l h : Int) (i : Nat) (hd : dok X.n d = true) (hw : want ops σ ⟨d, .slice t x lo hi none, ty, pos, af, gd⟩ = true)
    (ht : slB X.P t = some e) (hs : szB X.P e = some K.sz) (hV : lk V i = rds K (.slice a n c) xs) (hx : ev σ x = .slice a n c) (hlo : bound σ lo 0 l) (hhi : bound σ hi n h) (h0 : 0 ≤ l) (h1 : l ≤ h) (h2 : h ≤ n)
    (k : ∀ a' c', TL X ops (rds K (.slice a' (sub xs l h).length c') (sub xs l h) :: V) (updo σ d (.slice a' (sub xs l h).length c')) rest Q) : TL X ops V σ (⟨d, .slice t x lo hi none, ty, pos, af, gd⟩ :: rest) Q := by
  rintro w ⟨sm, I, hh, g, j, lw, s⟩
  obtain ⟨g1, g2, j', p, s'⟩ := star_take i s
  rw [hV] at p
  have hn : n = xs.length := by obtain ⟨_, A, c', hv, _⟩ := p; injection hv
  have hnc : n ≤ c := by
    obtain ⟨_, A, c', hv, hq, _⟩ := p
    injection hv with _ _ e3
    omega
  refine WL_step hd hw ?_
  rw [run_slice ht hs hx hlo hhi h0 h1 h2 hnc]
  have r := rdS_sub p.2 h0 h1 h2
  have := k (cutA a c l.toNat K.sz) (c - l.toNat)
  rw [sub_len h0 h1 (by omega)] at this
  exact this w ⟨sm, I, hh, g, j, lw, Hp.none, hh, Join.none hh, ⟨rfl, r⟩, s⟩
theorem v_sindex {t : TypeId} {x y : Operand} {s : Str} {k : IntKind} {j : Int} (ht : X.P.underlying t = some .string)
    (hx : ev σ x = vstr s) (hy : ev σ y = .int k j) (h0 : 0 ≤ j) (h1 : j < s.length) : VO X V σ ⟨d, .index t x y, ty, pos, af, gd⟩ (.int .u8 (bt s j)) := by
  intro w _
  have hlt : j.toNat < s.length := by omega
  have hb : (⟨s.toArray⟩ : ByteArray)[j.toNat]? = some (ix s j) := by
    rw [ByteArray.getElem?_lt' _ _ (by rw [bsize]; exact hlt)]
    congr 1
    show s.toArray[j.toNat] = _
    simp [ix, List.getD_eq_getElem?_getD, hlt]
  simp [execOp, hx, hy, vstr, Instr.index, asIntOf, run_underlying ht, h0, hb, bt]
theorem v_conv {s' t : TypeId} {x : Operand} {k k' : IntKind} {n : Int} {ds : TypeDesc} (h1 : X.P.underlying s' = some ds) (h2 : X.P.underlying t = some (.int k'))
    (hx : ev σ x = .int k n) : VO X V σ ⟨d, .convert s' t x, ty, pos, af, gd⟩ (.int k' (k'.wrap n)) := by
  intro w _
  simp [execOp, hx, convert, run_underlying h1, run_underlying h2, Conv.intToInt]
theorem v_quo {t yt : TypeId} {x y : Operand} {k : IntKind} {a b : Int} (hx : ev σ x = .int k a) (hy : ev σ y = .int k b) (hb : b ≠ 0) : VO X V σ ⟨d, .binOp .quo t x y yt, ty, pos, af, gd⟩ (.int k (k.wrap (a.tdiv b))) := by
  intro w _
  simp [execOp, hx, hy, eqGuard_at_int, binOp, Op.intDiv, hb]
theorem v_rem {t yt : TypeId} {x y : Operand} {k : IntKind} {a b : Int} (hx : ev σ x = .int k a) (hy : ev σ y = .int k b) (hb : b ≠ 0) : VO X V σ ⟨d, .binOp .rem t x y yt, ty, pos, af, gd⟩ (.int k (a.tmod b)) := by
  intro w _
  simp [execOp, hx, hy, eqGuard_at_int, binOp, Op.intDiv, hb]
theorem v_shl {t yt : TypeId} {x y : Operand} {k k' : IntKind} {a b : Int} (hx : ev σ x = .int k a) (hy : ev σ y = .int k' b) (hb : 0 ≤ b) (hb2 : b ≤ k.bits) : VO X V σ ⟨d, .binOp .shl t x y yt, ty, pos, af, gd⟩ (.int k (k.wrap (a * 2 ^ b.toNat))) := by
  intro w _
  simp [execOp, hx, hy, eqGuard_at_int, binOp_shl, shift_shl k k' a b hb hb2]
theorem v_shr {t yt : TypeId} {x y : Operand} {k k' : IntKind} {a b : Int} (hx : ev σ x = .int k a) (hy : ev σ y = .int k' b) (hb : 0 ≤ b) (hb2 : b ≤ k.bits) : VO X V σ ⟨d, .binOp .shr t x y yt, ty, pos, af, gd⟩ (.int k (a / 2 ^ b.toNat)) := by
  intro w _
  simp [execOp, hx, hy, eqGuard_at_int, binOp_shr, shift_shr k k' a b hb hb2]
theorem v_min {x y : Operand} {ts : Array TypeId} {k k' : IntKind} {a b : Int} (hx : ev σ x = .int k a) (hy : ev σ y = .int k' b) : VO X V σ ⟨d, .call ⟨.builtin .min, #[x, y], ts⟩, ty, pos, af, gd⟩ (.int k (if b < a then b else a)) := by
  intro w _
  simp [execOp, resolve, invoke, builtin, hx, hy, run_min_int2]
end
end Go.Pg
