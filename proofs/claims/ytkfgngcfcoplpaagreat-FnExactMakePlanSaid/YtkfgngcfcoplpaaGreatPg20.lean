import Derived.Test.YtkfgngcfcoplpaaGreatPg19
set_option linter.unusedVariables false
set_option linter.unusedSimpArgs false
namespace Go.Pg
def nm {α : Type} (x : α) : Option α := some x
theorem nm_bind {α β : Type} (x : α) (f : α → Option β) : (nm x).bind f = f x := rfl
def raw (g : Nat) (e : Nat) (fr : Nat × Nat) (cs : List Value) : HP := ⟨fun _ h => h = Hp.one g (.cells cs.toArray e fr), fun _ e => e⟩
def own' {α : Type} (K : Kind α) (xs : List α) (cs : List Value) : HP := ⟨fun I h => ownL K I h xs cs, fun l o => ownL_mono l o⟩
section
variable {C w : World} {V : List HP} {α : Type}
theorem St.opened {K : Kind α} {e : Nat} {a : Option Addr} {n c : Nat} {xs : List α} (s : St C w (ow K e (.slice a n c) xs :: V)) (hn : 0 < n) :
    ∃ g pre used spare fr, a = some ⟨g, pre.length, none⟩ ∧ n = xs.length ∧ n ≤ c ∧ c ≤ maxLen ∧ spare.length = (c - n) * K.sz ∧ (fr = (0, 0) ∨ pre.length + used.length + spare.length ≤ fr.1) ∧ used.length = xs.length * K.sz ∧
      (∀ v ∈ used, v.oneCell' = true) ∧ St C w (raw g e fr (pre ++ used ++ spare) :: own' K xs used :: V) := by
  obtain ⟨sm, I, hh, gg, jg, l, h1, h2, jS, p, st⟩ := s
  have p : owS K e I h1 (.slice a n c) xs := p
  rcases p with ⟨A, hv, rfl, _⟩ | ⟨g, c', pre, used, spare, fr, hb, hv, q2, q3, q4, q5, jo, ol⟩
  · injection hv with _ hv _
    omega
  injection hv with e1 e2 e3
  subst e1; subst e3; subst e2
  obtain ⟨k, k1, k2⟩ := Join.assoc jo jS
  exact ⟨g, pre, used, spare, fr, rfl, rfl, q2, q3, q4, q5, ownL_len ol, ownL_one ol, sm, I, hh, gg, jg, l, Hp.one g _, k, k2, rfl, hb, h2, k1, ol, st⟩
theorem St.closed {K : Kind α} {e g c : Nat} {fr : Nat × Nat} {xs ys zs : List α} {pre u1 u2 u3 spare : List Value} (s : St C w (raw g e fr (pre ++ (u1 ++ u3) ++ spare) :: own' K (xs ++ (ys ++ zs)) (u1 ++ (u2 ++ u3)) :: V))
    (l1 : u1.length = xs.length * K.sz) (l2 : u2.length = ys.length * K.sz) (hc : (xs ++ zs).length ≤ c) (hm : c ≤ maxLen) (hs : spare.length = (c - (xs ++ zs).length) * K.sz) (hf : fr = (0, 0) ∨ pre.length + (u1 ++ u3).length + spare.length ≤ fr.1) :
    St C w (ow K e (.slice (some ⟨g, pre.length, none⟩) (xs ++ zs).length c) (xs ++ zs) :: V) := by
  obtain ⟨sm, I, hh, gg, jg, l, h1, h2, jS, rfl, h3, h4, jo, ol, st⟩ := s
  have ol : ownL K I h3 (xs ++ (ys ++ zs)) (u1 ++ (u2 ++ u3)) := ol
  obtain ⟨k1, k2, c1, c2, j1, e1, o1, o2⟩ := ownL_split ol
  obtain ⟨k3, k4, c3, c4, j2, e2, o3, o4⟩ := ownL_split o2
  have m1 := ownL_len o1
  have m3 := ownL_len o3
  obtain ⟨qa, qb⟩ := List.append_inj e1 (by omega)
  obtain ⟨qc, qd⟩ := List.append_inj (qb.trans e2) (by omega)
  subst qa; subst qc; subst qd
  obtain ⟨m, jm⟩ := Join.of_disj (h1 := k1) (h2 := k4) (fun b => by
    rcases j1.disj b with f | f
    · exact .inl f
    · exact .inr ((j2.is_none b).1 f).2)
  have mle : Hp.le m h3 := fun b o e => by
    rcases jm.cases e with ⟨e, _⟩ | ⟨e, _⟩
    · exact j1.left b o e
    · exact j1.right b o (j2.right b o e)
  have hle : ∀ b, m b ≠ Option.none → h3 b ≠ Option.none := fun b hb hn => hb (by
    cases hq : m b with
    | none => rfl
    | some o => rw [mle b o hq] at hn; cases hn)
  obtain ⟨n1, jn1⟩ := Join.of_le (h1 := h3) (h2 := h4) jo hle
  have n1le : Hp.le n1 h2 := fun b o e => by
    rcases jn1.cases e with ⟨e, _⟩ | ⟨e, _⟩
    · exact jo.left b o (mle b o e)
    · exact jo.right b o e
  obtain ⟨n2, jn2⟩ := Join.of_disj (h1 := Hp.one g (.cells (pre ++ (u1 ++ u3) ++ spare).toArray e fr)) (h2 := n1) (fun b => by
    rcases jS.disj b with f | f
    · exact .inl f
    · refine .inr ?_
      cases hq : n1 b with
      | none => rfl
      | some o => rw [n1le b o hq] at f; cases f)
  have n2le : Hp.le n2 hh := fun b o e => by
    rcases jn2.cases e with ⟨e, _⟩ | ⟨e, _⟩
    · exact jS.left b o e
    · exact jS.right b o (n1le b o e)
  obtain ⟨n3, jn3⟩ := Join.of_disj (h1 := I) (h2 := n2) (fun b => by
    rcases jg.disj b with f | f
    · exact .inl f
    · refine .inr ?_
      cases hq : n2 b with
      | none => rfl
      | some o => rw [n2le b o hq] at f; cases f)
  have n3le : Hp.le n3 gg := fun b o e => by
    rcases jn3.cases e with ⟨e, _⟩ | ⟨e, _⟩
    · exact jg.left b o e
    · exact jg.right b o (n2le b o e)
  obtain ⟨t, t1, t2⟩ := Join.assoc' jn1 jn2
  exact ⟨sm, I, n2, n3, jn3, l.mono n3le, t, h4, t2, .inr ⟨g, c, pre, u1 ++ u3, spare, fr, m, rfl, hc, hm, hs, by simpa [Nat.add_assoc] using hf, t1, ownL_app jm o1 o4⟩, st⟩
theorem St.raw_store {P : Program} {g e : Nat} {fr : Nat × Nat} {cs : List Value} (s : St C w V) (i : Nat) (hV : lk V i = raw g e fr cs) (hf : fr = (0, 0) ∨ cs.length ≤ fr.1) (vs : List Value) (k : Nat) (hk : k + vs.length ≤ cs.length) (hv : ∀ v ∈ vs, v.oneCell' = true) :
    ∃ w', (storeCells ⟨g, k, none⟩ vs).run P w = .ok () w' ∧ St C w' (stt V i (raw g e fr (cs.take k ++ vs ++ cs.drop (k + vs.length)))) := by
  obtain ⟨_, w', h1, h2⟩ := St.act (β := Unit) s i (q := fun _ => raw g e fr (cs.take k ++ vs ++ cs.drop (k + vs.length))) (Ψ := fun _ w' => (storeCells ⟨g, k, none⟩ vs).run P w = .ok () w') (by
    intro I h p _ lw _
    rw [hV] at p
    obtain rfl : h = Hp.one g (.cells cs.toArray e fr) := p
    have hb : w.heap[g]? = some (.cells cs.toArray e fr) := lw g _ (by simp [Hp.one])
    obtain ⟨w', r, e', ot, sm⟩ := storeCells_blk (P := P) hf vs k 0 cs w rfl hb (by simpa using hk) hv
    refine ⟨(), w', _, r, fun h => sm _ h, rfl, ?_, ?_, ?_⟩
    · intro b o hbo
      simp only [Hp.one] at hbo
      split at hbo
      · rename_i hbb; subst hbb; rw [← Option.some.inj hbo]; simpa using e'
      · cases hbo
    · intro b hb'
      refine .inl fun hn => hb' ?_
      simp only [Hp.one] at *
      split at hn
      · cases hn
      · rename_i hne; rw [if_neg hne]
    · intro b o hn hbo
      have hne : b ≠ g := by
        rintro rfl
        simp [Hp.one] at hn
      rw [ot b hne]; exact hbo)
  exact ⟨w', h1, h2⟩
theorem St.raw_cell {g e : Nat} {fr : Nat × Nat} {cs : List Value} (s : St C w V) (i : Nat) (hV : lk V i = raw g e fr cs) (k : Nat) (v : Value) (hk : cs[k]? = some v) : w.cell? ⟨g, k, none⟩ = some v := by
  obtain ⟨I, h, p, _, lh, _⟩ := s.look i
  rw [hV] at p
  obtain rfl : h = Hp.one g (.cells cs.toArray e fr) := p
  have hb : w.heap[g]? = some (.cells cs.toArray e fr) := lh g _ (by simp [Hp.one])
  simpa [World.cell?, hb] using hk
end
section
variable {X : Cx} {V : List HP} {σ : Env} {Q : Exit → Env → World → Prop} {ops : Array Oper} {rest : List Oper} {o : Oper} {cd : Code} {ex : Exit}
variable {d : Option Nat} {ty : TypeId} {pos : String} {af : Array Edge} {gd : Option (Nat × Bool)}
variable {α : Type}
theorem c_open {K : Kind α} {e : Nat} {a : Option Addr} {n c : Nat} {xs : List α} (hn : 0 < n)
    (h : ∀ g pre used spare fr, a = some ⟨g, pre.length, none⟩ → n ≤ c → c ≤ maxLen → spare.length = (c - n) * K.sz → (fr = (0, 0) ∨ pre.length + used.length + spare.length ≤ fr.1) → used.length = xs.length * K.sz → (∀ v ∈ used, v.oneCell' = true) → TC X (raw g e fr (pre ++ used ++ spare) :: own' K xs used :: V) σ cd Q) :
    TC X (ow K e (.slice a n c) xs :: V) σ cd Q := by
  intro w s
  obtain ⟨g, pre, used, spare, fr, h1, h2, h3, h4, h5, h6, h7, h8, s'⟩ := s.opened hn
  exact h g pre used spare fr h1 h3 h4 h5 h6 h7 h8 w s'
theorem run_sbounds' {P : Program} {w : World} {n c : Nat} {lo hi : Option Operand} {l h : Int} (hlo : bound σ lo 0 l) (hhi : bound σ hi n h) (h0 : 0 ≤ l) (h1 : l ≤ h) (h2 : h ≤ c) :
    (Instr.sliceBounds true n c (lo.map (ev σ)) (hi.map (ev σ)) none).run P w = .ok (l.toNat, h.toNat, c) w := by
  have el : ∀ y : Nat, l ≤ y → (Instr.sliceBound (.int .i64 l) y .sliceB).run P w = .ok l.toNat w := fun y hy => run_sbound h0 hy
  cases hi with
  | none =>
    have : h = n := hhi
    subst this
    cases lo with
    | none =>
      have : l = 0 := hlo
      subst this
      simp [Instr.sliceBounds]
    | some x =>
      have hx : ev σ x = .int .i64 l := hlo
      simp [Instr.sliceBounds, hx, el n h1]
  | some y =>
    have hy : ev σ y = .int .i64 h := hhi
    have eh : ∀ code, (Instr.sliceBound (.int .i64 h) c code).run P w = .ok h.toNat w := fun code => run_sbound (by omega) (by omega)
    cases lo with
    | none =>
      have : l = 0 := hlo
      subst this
      simp [Instr.sliceBounds, hy, eh]
    | some x =>
      have hx : ev σ x = .int .i64 l := hlo
      simp [Instr.sliceBounds, hx, hy, eh, el h.toNat (by omega)]
theorem v_cutp {t e : TypeId} {x : Operand} {a : Option Addr} {n c sz : Nat} {lo hi : Option Operand} {l h : Int} (ht : slB X.P t = some e) (hs : szB X.P e = some sz) (hx : ev σ x = .slice a n c)
    (hlo : bound σ lo 0 l) (hhi : bound σ hi n h) (h0 : 0 ≤ l) (h1 : l ≤ h) (h2 : h ≤ c) : VO X V σ ⟨d, .slice t x lo hi none, ty, pos, af, gd⟩ (.slice (cutA a c l.toNat sz) (h.toNat - l.toNat) (c - l.toNat)) := by
  intro w _
  have hu := slB_eq ht
  have hb := run_sbounds' (P := X.P) (w := w) hlo hhi h0 h1 h2
  simp only [execOp, Instr.sliceAt, hx, Sem.run_bind, run_underlying hu, Result.andThen_ok, Instr.slice, Option.map_none, hb, run_sizeOf hs, Sem.run_pure, cutA]
theorem v_cut3 {t e : TypeId} {x y z u : Operand} {a : Option Addr} {n c sz : Nat} {l h m : Int} (ht : slB X.P t = some e) (hs : szB X.P e = some sz) (hx : ev σ x = .slice a n c)
    (hy : ev σ y = .int .i64 l) (hz : ev σ z = .int .i64 h) (hu : ev σ u = .int .i64 m) (h0 : 0 ≤ l) (h1 : l ≤ h) (h2 : h ≤ m) (h3 : m ≤ c) : VO X V σ ⟨d, .slice t x (some y) (some z) (some u), ty, pos, af, gd⟩ (.slice (cutA a m.toNat l.toNat sz) (h.toNat - l.toNat) (m.toNat - l.toNat)) := by
  intro w _
  have hu' := slB_eq ht
  have e1 : ∀ code, (Instr.sliceBound (.int .i64 m) c code).run X.P w = .ok m.toNat w := fun code => run_sbound (by omega) h3
  have e2 : ∀ code, (Instr.sliceBound (.int .i64 h) m.toNat code).run X.P w = .ok h.toNat w := fun code => run_sbound (by omega) (by omega)
  have e3 : ∀ code, (Instr.sliceBound (.int .i64 l) h.toNat code).run X.P w = .ok l.toNat w := fun code => run_sbound h0 (by omega)
  have hb : (Instr.sliceBounds true n c (some (.int .i64 l)) (some (.int .i64 h)) (some (.int .i64 m))).run X.P w = .ok (l.toNat, h.toNat, m.toNat) w := by
    simp [Instr.sliceBounds, e1, e2, e3]
  simp only [execOp, Instr.sliceAt, hx, Sem.run_bind, run_underlying hu', Result.andThen_ok, Instr.slice, Option.map_some, hy, hz, hu, hb, run_sizeOf hs, Sem.run_pure, cutA]
theorem l_apr {t e : TypeId} {x y : Operand} {g k0 m1 c o2 n2 c2 sz : Nat} {fr : Nat × Nat} {cs news : List Value} (i : Nat) (hd : dok X.n d = true) (hw : want ops σ ⟨d, .call ⟨.builtin .append, #[x, y], #[t, t]⟩, ty, pos, af, gd⟩ = true)
    (ht : slB X.P t = some e) (hs : szB X.P e = some sz) (hV : lk V i = raw g e fr cs) (hf : fr = (0, 0) ∨ cs.length ≤ fr.1) (hx : ev σ x = .slice (some ⟨g, k0, none⟩) m1 c) (hy : ev σ y = .slice (some ⟨g, o2, none⟩) n2 c2)
    (hn : news.length = n2 * sz) (hc : ∀ j v, news[j]? = some v → cs[o2 + j]? = some v) (hroom : m1 + n2 ≤ c) (hk : k0 + m1 * sz + news.length ≤ cs.length) (hv : ∀ v ∈ news, v.oneCell' = true)
    (h : TL X ops (stt V i (raw g e fr (cs.take (k0 + m1 * sz) ++ news ++ cs.drop (k0 + m1 * sz + news.length)))) (updo σ d (.slice (some ⟨g, k0, none⟩) (m1 + n2) c)) rest Q) :
    TL X ops V σ (⟨d, .call ⟨.builtin .append, #[x, y], #[t, t]⟩, ty, pos, af, gd⟩ :: rest) Q := by
  intro w s
  have hu := slB_eq ht
  unfold szB at hs
  cases hi : X.P.info? e with
  | none => rw [hi] at hs; cases hs
  | some info =>
  rw [hi] at hs
  simp only [Option.map_some, Option.some.injEq] at hs
  obtain ⟨w', r, s'⟩ := s.raw_store (P := X.P) i hV hf news (k0 + m1 * sz) hk hv
  refine WL_step hd hw ?_
  have hcell : ∀ (j : Nat) (v : Value), news[j]? = some v → w.cell? ((⟨g, o2, none⟩ : Addr).add j) = some v := fun j v hj => by
    rw [add_eq]
    exact s.raw_cell i hV _ _ (hc j v hj)
  have hfc := run_firstCells_some (P := X.P) w info.size n2 ⟨g, o2, none⟩ n2 c2 news (by rw [hs]; exact hn) hcell
  rw [hs] at hfc
  have hr : (execOp (ev σ) ⟨d, .call ⟨.builtin .append, #[x, y], #[t, t]⟩, ty, pos, af, gd⟩).run X.P w = .ok (.value (.slice (some ⟨g, k0, none⟩) (m1 + n2) c)) w' := by
    simp [execOp, resolve, invoke, builtin, hx, hy, Builtin.append_, run_underlying hu, sizeOf, typeInfo, hi, Builtin.lenOf, hroom, hfc, add_eq, hs, r, Sem.run_bind]
  rw [hr]
  exact h w' s'
theorem zeroCells_list (z : Array Value) (hz : 0 < z.size) (n : Nat) : (Builtin.zeroCells z n).toList.length = n * z.size ∧ ∀ v ∈ (Builtin.zeroCells z n).toList, v ∈ z.toList := by
  unfold Builtin.zeroCells
  refine ⟨by simp, fun v hv => ?_⟩
  simp only [Array.toList_map, List.mem_map] at hv
  obtain ⟨i, _, rfl⟩ := hv
  have hlt : i % z.size < z.size := Nat.mod_lt _ hz
  rw [getElem!_pos z _ hlt]
  simp
theorem l_clr {K : Kind α} {t e : TypeId} {x : Operand} {g o2 n2 c2 : Nat} {fr : Nat × Nat} {cs : List Value} {z : α} (i : Nat) (hd : dok X.n d = true) (hw : want ops σ ⟨d, .call ⟨.builtin .clear, #[x], #[t]⟩, ty, pos, af, gd⟩ = true)
    (ht : slB X.P t = some e) (hz : ZeroK X.P K e z) (hsz : 0 < K.sz) (hV : lk V i = raw g e fr cs) (hf : fr = (0, 0) ∨ cs.length ≤ fr.1) (hx : ev σ x = .slice (some ⟨g, o2, none⟩) n2 c2)
    (hk : o2 + n2 * K.sz ≤ cs.length)
    (h : ∀ zs : List Value, zs.length = n2 * K.sz → TL X ops (stt V i (raw g e fr (cs.take o2 ++ zs ++ cs.drop (o2 + zs.length)))) (updo σ d (.tuple #[])) rest Q) :
    TL X ops V σ (⟨d, .call ⟨.builtin .clear, #[x], #[t]⟩, ty, pos, af, gd⟩ :: rest) Q := by
  intro w s
  have hu := slB_eq ht
  obtain ⟨zc, h1, h2, h3⟩ := hz
  obtain ⟨zv, hz1, hz2⟩ := run_zero (P := X.P) (w := w) h1
  have hzs : zv.cells.size = K.sz := by rw [hz2]; simpa using h2
  have hzo : ∀ v ∈ zv.cells.toList, v.oneCell' = true := fun v hv => K.own_one (h3 Hp.none) v (by rw [hz2] at hv; simpa using hv)
  obtain ⟨l1, l2⟩ := zeroCells_list zv.cells (by rw [hzs]; exact hsz) n2
  rw [hzs] at l1
  refine WL_step hd hw ?_
  rcases Nat.eq_zero_or_pos n2 with rfl | hpos
  · have hr : (execOp (ev σ) ⟨d, .call ⟨.builtin .clear, #[x], #[t]⟩, ty, pos, af, gd⟩).run X.P w = .ok (.value (.tuple #[])) w := by
      simp [execOp, resolve, invoke, builtin, hx, Builtin.clear_, run_underlying hu, Sem.run_bind]
    rw [hr]
    refine h [] (by simp) w ?_
    have : stt V i (raw g e fr (cs.take o2 ++ [] ++ cs.drop (o2 + ([] : List Value).length))) = stt V i (raw g e fr cs) := by simp
    rw [this]
    have hst : ∀ (V : List HP) (i : Nat), lk V i = raw g e fr cs → St X.C w V → St X.C w (stt V i (raw g e fr cs)) := by
      intro V i hV s
      obtain ⟨a, I, h, gg, j, l, st⟩ := s
      obtain ⟨g1, g2, j', p, s'⟩ := star_take i st
      exact ⟨a, I, h, gg, j, l, star_put i j' (hV ▸ p) s'⟩
    exact hst V i hV s
  · obtain ⟨w', r, s'⟩ := s.raw_store (P := X.P) i hV hf (Builtin.zeroCells zv.cells n2).toList o2 (by rw [l1]; exact hk) (fun v hv => hzo v (l2 v hv))
    have hr : (execOp (ev σ) ⟨d, .call ⟨.builtin .clear, #[x], #[t]⟩, ty, pos, af, gd⟩).run X.P w = .ok (.value (.tuple #[])) w' := by
      obtain ⟨n3, rfl⟩ : ∃ n3, n2 = n3 + 1 := ⟨n2 - 1, by omega⟩
      simp [execOp, resolve, invoke, builtin, hx, Builtin.clear_, run_underlying hu, Sem.run_bind, hz1, r]
    rw [hr]
    exact h _ l1 w' s'
theorem c_ncap {K : Kind α} {a : Option Addr} {n c : Nat} {xs : List α} (i : Nat) (hV : Sees (lk V i) K (.slice a n c) xs) (h : n ≤ c → TC X V σ cd Q) : TC X V σ cd Q := by
  intro w s
  obtain ⟨J, lw, A, c', hv, h2, h3, h4⟩ := s.reads hV
  refine h ?_ w s
  injection hv with e1 e2 e3
  omega
theorem cutA_some {g o c l sz : Nat} : cutA (some ⟨g, o, none⟩) c l sz = some ⟨g, if c = l then o else o + l * sz, none⟩ := by
  unfold cutA
  split
  · rfl
  · simp [add_eq]
end
end Go.Pg
