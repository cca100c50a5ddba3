import Derived.Test.YtkfgngcfcoplpaaPg25
set_option linter.unusedVariables false
set_option linter.unusedSimpArgs false
namespace Go.Pg
theorem St.actR {β : Type} {C w : World} {V : List HP} (s : St C w V) (i kk : Nat) {q : β → HP} {Ψ : β → World → Prop}
    (f : ∀ I h, (∃ hk, (lk V kk).p I hk) → (lk V i).p I h → Le I w → Le h w → (∀ k, I k = Option.none ∨ h k = Option.none) → ∃ b w' h', Ψ b w' ∧ (Same C w → Same C w') ∧ (q b).p I h' ∧ Le h' w' ∧ (∀ k, h' k ≠ Option.none → h k ≠ Option.none ∨ w.heap.size ≤ k) ∧ ∀ (k : Nat) (o : Obj), h k = Option.none → w.heap[k]? = some o → w'.heap[k]? = some o) :
    ∃ b w', Ψ b w' ∧ St C w' (stt V i (q b)) := by
  obtain ⟨a, I, h, g, j, l, s⟩ := s
  have hkk : ∃ hk, (lk V kk).p I hk := by
    obtain ⟨hk, _, _, ck, _⟩ := star_take kk s
    exact ⟨hk, ck⟩
  obtain ⟨h1, h2, j', c, s'⟩ := star_take i s
  obtain ⟨b, w', h', hΨ, hs, hq, hl, hn, hk⟩ := f I h1 hkk c (l.mono j.left) (l.mono (Hp.le_trans j'.left j.right)) (fun k => by
    rcases j.disj k with e | e
    · exact .inl e
    · exact .inr ((j'.is_none k).1 e).1)
  refine ⟨b, w', hΨ, ?_⟩
  have old : ∀ b, h' b ≠ Option.none → I b = Option.none ∧ h2 b = Option.none := by
    intro b hb
    rcases hn b hb with e | e
    · refine ⟨?_, ?_⟩
      · rcases j.disj b with f | f
        · exact f
        · exact absurd ((j'.is_none b).1 f).1 e
      · rcases j'.disj b with f | f
        · exact absurd f e
        · exact f
    · have : g b = Option.none := by
        cases hg : g b with
        | none => rfl
        | some o =>
          have := (l.lt (b := b) (by rw [hg]; exact fun h => by cases h))
          omega
      have := (j.is_none b).1 this
      exact ⟨this.1, ((j'.is_none b).1 this.2).2⟩
  obtain ⟨m, hm⟩ := Join.of_disj (h1 := h') (h2 := h2) (fun b => by
    by_cases e : h' b = Option.none
    · exact .inl e
    · exact .inr (old b e).2)
  obtain ⟨g', hg'⟩ := Join.of_disj (h1 := I) (h2 := m) (fun b => by
    by_cases e : h' b = Option.none
    · rcases j.disj b with f | f
      · exact .inl f
      · exact .inr ((hm.is_none b).2 ⟨e, ((j'.is_none b).1 f).2⟩)
    · exact .inl (old b e).1)
  refine ⟨hs a, I, m, g', hg', ?_, star_put i hm hq s'⟩
  intro b o e
  rcases hg'.cases e with ⟨e1, e2⟩ | ⟨e1, e2⟩
  · refine hk b o ?_ (l b o (j.left b o e1))
    rcases j.disj b with f | f
    · rw [f] at e1; cases e1
    · exact ((j'.is_none b).1 f).1
  · rcases hm.cases e1 with ⟨e3, e4⟩ | ⟨e3, e4⟩
    · exact hl b o e3
    · refine hk b o ?_ (l b o (j.right b o (j'.right b o e3)))
      rcases j'.disj b with f | f
      · exact f
      · rw [f] at e3; cases e3
section
variable {X : Cx} {V : List HP} {σ : Env} {Q : Exit → Env → World → Prop} {ops : Array Oper} {rest : List Oper}
variable {d : Option Nat} {ty : TypeId} {pos : String} {af : Array Edge} {gd : Option (Nat × Bool)}
variable {α β : Type}
theorem l_steR [Inhabited α] {K : Kind α} {L : Kind β} {ys : List β} {T e : TypeId} {x y : Operand} {g o n c fo : Nat} {xs : List α} {v : Value} {f : α → α} (i kk : Nat) (j : Int) (hd : dok X.n d = true) (hw : want ops σ ⟨d, .store T x y, ty, pos, af, gd⟩ = true) (hs : szB X.P T = some 1)
    (hk : lk V kk = rds L v ys) (hl : fo < K.sz ∧ ∀ I h x cs, rdS L I v ys → K.own I h x cs → K.own I h (f x) (cs.set fo v)) (hV : lk V i = ow K e (.slice (some ⟨g, o, none⟩) n c) xs) (hx : ev σ x = .pointer (some ⟨g, o + j.toNat * K.sz + fo, none⟩)) (hy : ev σ y = v) (hv : v.oneCell' = true) (h0 : 0 ≤ j) (h1 : j < n)
    (h : TL X ops (stt V i (ow K e (.slice (some ⟨g, o, none⟩) n c) (xs.set j.toNat (f (ix xs j))))) (updo σ d undef) rest Q) : TL X ops V σ (⟨d, .store T x y, ty, pos, af, gd⟩ :: rest) Q := by
  intro w s
  have key : ∃ (_ : Unit) (w' : World), (execOp (ev σ) ⟨d, .store T x y, ty, pos, af, gd⟩).run X.P w = .ok .skip w' ∧ St X.C w' (stt V i (ow K e (.slice (some ⟨g, o, none⟩) n c) (xs.set j.toNat (f (ix xs j))))) := by
    refine St.actR s i kk (q := fun _ => _) (Ψ := fun _ w' => _) ?_
    rintro I hh ⟨hk1, pk⟩ p _ lw _
    rw [hk] at pk
    have pk : rdS L I v ys := pk.2
    rw [hV] at p
    have p : owS K e I hh (.slice (some ⟨g, o, none⟩) n c) xs := p
    rcases p with ⟨A, hv, rfl, _⟩ | ⟨g', c', pre, used, spare, fr, hb, hv, h2, h3, h4, h5, jo, ol⟩
    · injection hv with _ hv _
      omega
    injection hv with e1 e2 e3
    injection e1 with e1
    injection e1 with e1 e4
    subst e1; subst e3; subst e4; subst e2
    obtain ⟨a1, c1, b1, g1, g2, hc, hlen, jn, ox, hput⟩ := ownL_at ol (ix_get h0 h1)
    have hlc := K.own_len ox
    have hblk : w.heap[g]? = some (.cells (pre ++ used ++ spare).toArray e fr) := lw g _ (jo.left g _ (by simp [Hp.one]))
    have hlu : used.length = a1.length + c1.length + b1.length := by rw [hc]; simp [Nat.add_assoc]
    have hpos : pre.length + j.toNat * K.sz + fo < (pre ++ used ++ spare).length := by
      have := hl.1
      simp only [List.length_append]
      omega
    have hst := run_store_blk (P := X.P) hblk hpos (by rcases h5 with h5 | h5; exact .inl h5; exact .inr (by simpa [Nat.add_assoc] using h5)) hv
    refine ⟨(), w.setCell ⟨g, pre.length + j.toNat * K.sz + fo, none⟩ v, ?_⟩
    obtain ⟨h', jo'⟩ := Join.of_disj (h1 := Hp.one g (.cells ((pre ++ used ++ spare).set (pre.length + j.toNat * K.sz + fo) v).toArray e fr)) (h2 := hb) (fun k => by
      rcases jo.disj k with e | e
      · refine .inl ?_
        simp only [Hp.one] at *
        split at e
        · cases e
        · rename_i hne; rw [if_neg hne]
      · exact .inr e)
    refine ⟨h', ?_, fun a => a.setCell _ _, ?_, ?_, ?_, ?_⟩
    · simp only [execOp, Instr.storeAt, hx, hy, Instr.sureAddr, Sem.run_bind, Sem.run_pure, Result.andThen_ok, run_storeVar_one hs hv hst]
    · have hset : (pre ++ used ++ spare).set (pre.length + j.toNat * K.sz + fo) v = pre ++ (a1 ++ c1.set fo v ++ b1) ++ spare := by
        have := hl.1
        rw [List.append_assoc, List.set_append_right _ _ (by omega), show pre.length + j.toNat * K.sz + fo - pre.length = j.toNat * K.sz + fo by omega, List.set_append_left _ _ (by omega), hc, List.append_assoc a1,
          List.set_append_right _ _ (by omega), show j.toNat * K.sz + fo - a1.length = fo by omega, List.set_append_left _ _ (by omega)]
        simp [List.append_assoc]
      refine .inr ⟨g, _, pre, a1 ++ c1.set fo v ++ b1, spare, fr, hb, by rw [List.length_set], by rw [List.length_set]; exact h2, h3, by rw [List.length_set]; exact h4, ?_, ?_, ?_⟩
      · rcases h5 with h5 | h5
        · exact .inl h5
        · refine .inr ?_
          simp only [List.length_append, List.length_set] at *
          omega
      · rw [← hset]; exact jo'
      · exact hput I _ _ _ _ (Hp.le_refl I) jn (hl.2 I _ _ _ pk ox)
    · intro k o' e'
      rcases jo'.cases e' with ⟨e1, _⟩ | ⟨e1, e2⟩
      · simp only [Hp.one] at e1
        split at e1
        · rename_i hk
          subst hk
          rw [← Option.some.inj e1, heap_set_same hblk]
          simp
        · cases e1
      · have hne : k ≠ g := by
          rintro rfl
          simp [Hp.one] at e2
        rw [heap_set_other hne]
        exact lw k _ (jo.right k _ e1)
    · intro k hk
      refine .inl fun hn => hk ?_
      have := (jo.is_none k).1 hn
      refine (jo'.is_none k).2 ⟨?_, this.2⟩
      have := this.1
      simp only [Hp.one] at *
      split at this
      · cases this
      · rename_i hne; rw [if_neg hne]
    · intro k o' hk e'
      have := ((jo.is_none k).1 hk).1
      have hne : k ≠ g := by
        rintro rfl
        simp [Hp.one] at this
      rw [heap_set_other hne]
      exact e'
  obtain ⟨_, w', hr, s'⟩ := key
  exact WL_step hd hw (by rw [hr]; exact h w' s')
end
section
variable (K : Kind Int) (A : Option Addr) (n c : Nat)
def lzP (I : Hp) (v : Value) (xs : List Int) : Prop := (v = .slice A n c ∧ xs = [-1]) ∨ (xs ≠ [-1] ∧ rdS K I v xs)
theorem lzP_mono {I J : Hp} (l : Hp.le I J) {v : Value} {xs : List Int} (h : lzP K A n c I v xs) : lzP K A n c J v xs := by
  rcases h with h | h
  · exact .inl h
  · exact .inr ⟨h.1, rdS_mono l h.2⟩
theorem lzP_one {I : Hp} {v : Value} {xs : List Int} (h : lzP K A n c I v xs) : v.oneCell' = true := by
  rcases h with ⟨rfl, _⟩ | ⟨_, A, c, rfl, _⟩ <;> rfl
def Kind.lz : Kind (List Int) where
  sz := 1
  rd I xs cs := ∃ v, cs = [v] ∧ lzP K A n c I v xs
  own I h xs cs := h = Hp.none ∧ ∃ v, cs = [v] ∧ lzP K A n c I v xs
  rd_mono l h := by obtain ⟨v, e, a⟩ := h; exact ⟨v, e, lzP_mono K A n c l a⟩
  own_mono l h := by obtain ⟨h0, v, e, a⟩ := h; exact ⟨h0, v, e, lzP_mono K A n c l a⟩
  own_rd l m h := by obtain ⟨h0, v, e, a⟩ := h; exact ⟨v, e, lzP_mono K A n c l a⟩
  rd_len h := by obtain ⟨v, e, a⟩ := h; rw [e]; rfl
  own_len h := by obtain ⟨_, v, e, a⟩ := h; rw [e]; rfl
  rd_one h := by
    obtain ⟨v, rfl, a⟩ := h
    intro u hu
    rw [List.mem_singleton.1 hu]; exact lzP_one K A n c a
  own_one h := by
    obtain ⟨_, v, rfl, a⟩ := h
    intro u hu
    rw [List.mem_singleton.1 hu]; exact lzP_one K A n c a
def rz (v : Value) (xs : List Int) : HP := ⟨fun I h => h = Hp.none ∧ lzP K A n c I v xs, fun l h => ⟨h.1, lzP_mono K A n c l h.2⟩⟩
def DecK.lz : DecK (Kind.lz K A n c) := ⟨Value, fun a _ => [a], fun a xs => [rz K A n c a xs], fun I x cs h => by
  obtain ⟨v, rfl, r⟩ := h
  exact ⟨v, rfl, Hp.none, Hp.none, Join.none _, ⟨rfl, r⟩, rfl⟩⟩
def MkS.lz : MkS (Kind.lz K A n c) := ⟨Value, fun a _ => [a], fun a xs => [rz K A n c a xs], fun I h a x s => by
  obtain ⟨h1, h2, j, ⟨rfl, r⟩, e⟩ := s
  have e : h2 = Hp.none := e
  subst e
  exact ⟨j.eq_of_none, a, rfl, r⟩⟩
def Zr.lz : Zr (Kind.lz K A n c) := ⟨[], [.slice none 0 0], rfl, fun I => ⟨rfl, _, rfl, .inr ⟨by simp, none, 0, rfl, Nat.le_refl _, Nat.zero_le _, fun h => absurd h (Nat.lt_irrefl _)⟩⟩⟩
end
section
variable {C w : World} {V : List HP} {α β γ : Type}
theorem ownL_map {K : Kind α} {K' : Kind β} (g : α → β) {I : Hp} : ∀ (xs : List α) (h : Hp) (cs : List Value), (∀ x ∈ xs, ∀ h cs, K.own I h x cs → K'.own I h (g x) cs) → ownL K I h xs cs → ownL K' I h (xs.map g) cs := by
  intro xs
  induction xs with
  | nil => intro h cs _ o; exact o
  | cons x xs ih =>
    rintro h cs f ⟨h1, h2, c1, c2, j, e, a, b⟩
    exact ⟨h1, h2, c1, c2, j, e, f x (by simp) _ _ a, ih _ _ (fun y hy => f y (by simp [hy])) b⟩
theorem owS_map {K : Kind α} {K' : Kind β} (g : α → β) (hs : K.sz = K'.sz) {e : Nat} {I h : Hp} {v : Value} {xs : List α} (f : ∀ x ∈ xs, ∀ h cs, K.own I h x cs → K'.own I h (g x) cs) (o : owS K e I h v xs) : owS K' e I h v (xs.map g) := by
  rcases o with ⟨A, rfl, rfl, rfl⟩ | ⟨b, c, pre, used, spare, fr, hb, rfl, q2, q3, q4, q5, jo, ol⟩
  · exact .inl ⟨A, rfl, rfl, rfl⟩
  · exact .inr ⟨b, c, pre, used, spare, fr, hb, by rw [List.length_map], by rw [List.length_map]; exact q2, q3, by rw [List.length_map, ← hs]; exact q4, q5, jo, ownL_map g xs _ _ f ol⟩
theorem St.kmap {K : Kind α} {K' : Kind β} (g : α → β) (hs : K.sz = K'.sz) {e : Nat} {v : Value} {xs : List α} (f : ∀ x ∈ xs, ∀ I h cs, K.own I h x cs → K'.own I h (g x) cs) (s : St C w V) (i : Nat) (hV : lk V i = ow K e v xs) : St C w (ow K' e v (xs.map g) :: Pg.rm V i) := by
  obtain ⟨a, I, h, gg, j, l, s⟩ := s.mv i
  obtain ⟨h1, h2, j', p, s'⟩ := s
  rw [hV] at p
  exact ⟨a, I, h, gg, j, l, h1, h2, j', owS_map g hs (fun x hx => f x hx I) p, s'⟩
theorem St.kmapR {K : Kind α} {K' : Kind β} {L : Kind γ} {u : Value} {ys : List γ} (g : α → β) (hs : K.sz = K'.sz) {e : Nat} {v : Value} {xs : List α} (f : ∀ x ∈ xs, ∀ I h cs, rdS L I u ys → K.own I h x cs → K'.own I h (g x) cs) (s : St C w V) (i k : Nat) (hV : lk V i = ow K e v xs) (hk : lk V k = rds L u ys) : St C w (ow K' e v (xs.map g) :: Pg.rm V i) := by
  have hkk : ∀ I h, star V I h → rdS L I u ys := fun I h s => by
    obtain ⟨hk1, _, _, ck, _⟩ := star_take k s
    rw [hk] at ck
    exact ck.2
  obtain ⟨a, I, h, gg, j, l, s⟩ := s
  have hr := hkk I h s
  obtain ⟨h1, h2, j', p, s'⟩ := star_take i s
  rw [hV] at p
  exact ⟨a, I, h, gg, j, l, h1, h2, j', owS_map g hs (fun x hx h cs => f x hx I h cs hr) p, s'⟩
theorem St.rzo {K : Kind Int} {A : Option Addr} {n c : Nat} {v : Value} (s : St C w V) (i : Nat) (hV : lk V i = rz K A n c v [-1]) : v = .slice A n c := by
  obtain ⟨I, h, p, _⟩ := s.look i
  rw [hV] at p
  rcases p.2 with p | p
  · exact p.1
  · exact absurd rfl p.1
end
section
variable {α β γ : Type}
theorem setR_fst {B : Kind α} {L : Kind γ} {e : Nat} {g : β → List γ × α} {f : β → β} {ys : List γ} {v : Value} (hf : ∀ x, g (f x) = (ys, (g x).2)) :
    0 < (Kind.iso (Kind.pair (Kind.sl e L) B) g).share.sz ∧ ∀ I h x cs, rdS L I v ys → (Kind.iso (Kind.pair (Kind.sl e L) B) g).share.own I h x cs → (Kind.iso (Kind.pair (Kind.sl e L) B) g).share.own I h (f x) (cs.set 0 v) := by
  refine ⟨by show 0 < 1 + B.sz; omega, ?_⟩
  rintro I h x cs r ⟨rfl, c1, c2, rfl, ⟨u, rfl, r1⟩, r2⟩
  refine ⟨rfl, ?_⟩
  show (Kind.pair (Kind.sl e L) B).rd I (g (f x)) _
  rw [hf x]
  exact ⟨[v], c2, rfl, ⟨v, rfl, r⟩, r2⟩
theorem setR_lz {A : Kind α} {K : Kind Int} {A0 : Option Addr} {n0 c0 fo : Nat} {g : β → α × List Int} {f : β → β} {ys : List Int} {v : Value} (h0 : A.sz = fo) (hy : ys ≠ [-1]) (hf : ∀ x, g (f x) = ((g x).1, ys)) :
    fo < (Kind.iso (Kind.pair A (Kind.lz K A0 n0 c0)) g).share.sz ∧ ∀ I h x cs, rdS K I v ys → (Kind.iso (Kind.pair A (Kind.lz K A0 n0 c0)) g).share.own I h x cs → (Kind.iso (Kind.pair A (Kind.lz K A0 n0 c0)) g).share.own I h (f x) (cs.set fo v) := by
  refine ⟨by show fo < A.sz + 1; omega, ?_⟩
  rintro I h x cs r ⟨rfl, c1, c2, rfl, r1, u, rfl, r2⟩
  refine ⟨rfl, ?_⟩
  show (Kind.pair A (Kind.lz K A0 n0 c0)).rd I (g (f x)) _
  rw [hf x]
  have hl := A.rd_len r1
  rw [List.set_append_right _ _ (by omega), show fo - c1.length = 0 by omega]
  exact ⟨c1, [v], rfl, r1, v, rfl, .inr ⟨hy, r⟩⟩
theorem setL_lz {A : Kind α} {K : Kind Int} {A0 : Option Addr} {n0 c0 fo : Nat} {g : β → α × List Int} {f : β → β} (h0 : A.sz = fo) (hf : ∀ x, g (f x) = ((g x).1, [-1])) : SetL (Kind.iso (Kind.pair A (Kind.lz K A0 n0 c0)) g).share fo (.slice A0 n0 c0) f := by
  refine ⟨by show fo < A.sz + 1; omega, ?_⟩
  rintro I h x cs ⟨rfl, c1, c2, rfl, r1, u, rfl, r2⟩
  refine ⟨rfl, ?_⟩
  show (Kind.pair A (Kind.lz K A0 n0 c0)).rd I (g (f x)) _
  rw [hf x]
  have hl := A.rd_len r1
  rw [List.set_append_right _ _ (by omega), show fo - c1.length = 0 by omega]
  exact ⟨c1, [.slice A0 n0 c0], rfl, r1, _, rfl, .inl ⟨rfl, rfl⟩⟩
theorem own_lz {A : Kind α} {K : Kind Int} {A0 : Option Addr} {n0 c0 e : Nat} {g : β → α × List Int} {x : β} (hx : (g x).2 ≠ [-1]) {I h : Hp} {cs : List Value} (o : (Kind.iso (Kind.pair A (Kind.sl e K)) g).share.own I h x cs) : (Kind.iso (Kind.pair A (Kind.lz K A0 n0 c0)) g).share.own I h x cs := by
  obtain ⟨rfl, c1, c2, rfl, r1, u, rfl, r2⟩ := o
  exact ⟨rfl, c1, [u], rfl, r1, u, rfl, .inr ⟨hx, r2⟩⟩
theorem own_unlz {A : Kind α} {K : Kind Int} {A0 : Option Addr} {c0 e : Nat} {ws : List Int} {g : β → α × List Int} {f : β → β} (hf : ∀ x, g (f x) = ((g x).1, if (g x).2 = [-1] then ws else (g x).2)) {x : β} {I h : Hp} {cs : List Value} {n0 : Nat}
    (r : rdS K I (.slice A0 n0 c0) ws) (o : (Kind.iso (Kind.pair A (Kind.lz K A0 n0 c0)) g).share.own I h x cs) : (Kind.iso (Kind.pair A (Kind.sl e K)) g).share.own I h (f x) cs := by
  obtain ⟨rfl, c1, c2, rfl, r1, u, rfl, r2⟩ := o
  refine ⟨rfl, ?_⟩
  show (Kind.pair A (Kind.sl e K)).rd I (g (f x)) _
  rw [hf x]
  rcases r2 with ⟨rfl, q⟩ | ⟨q, r2⟩
  · exact ⟨c1, _, rfl, r1, _, rfl, by simpa [q] using r⟩
  · exact ⟨c1, _, rfl, r1, _, rfl, by simpa [q] using r2⟩
end
section
variable {X : Cx} {V : List HP} {σ : Env} {Q : Exit → Env → World → Prop}
end
def gcallv {α : Type} (c : Bool) (d : α) (x : Option α) : Option α := cond c x (some d)
theorem gcallv_t {α : Type} {c : Bool} {d : α} {x : Option α} {r : α} (h : gcallv c d x = some r) (hc : c = true) : x = some r := by
  subst hc; exact h
theorem gcallv_f {α : Type} {c : Bool} {d : α} {x : Option α} {r : α} (h : gcallv c d x = some r) (hc : c = false) : d = r := by
  subst hc; exact Option.some.inj h
def iz (i : Int) (p q : HP) : HP := if i = 0 then p else q
theorem iz_n {i : Int} {p q : HP} (h : i ≠ 0) : iz i p q = q := if_neg h
theorem St.em {C w : World} {V : List HP} (s : St C w V) : St C w (emp :: V) := by
  obtain ⟨a, I, h, g, j, l, s⟩ := s
  exact ⟨a, I, h, g, j, l, Hp.none, h, Join.none h, rfl, s⟩
theorem St.uem {C w : World} {V : List HP} (s : St C w (emp :: V)) : St C w V := by
  obtain ⟨a, I, h, g, j, l, h1, h2, j', e, s⟩ := s
  have e : h1 = Hp.none := e
  subst e
  have e2 := j'.eq_of_none
  subst e2
  exact ⟨a, I, _, g, j, l, s⟩
theorem St.iz0 {C w : World} {V : List HP} {j : Int} (hj : j = 0) {p q : HP} (s : St C w V) (i : Nat) (hV : lk V i = iz j p q) : St C w (p :: Pg.rm V i) := by
  have := s.mv i
  unfold Pg.mv at this
  rwa [hV, show iz j p q = p from if_pos hj] at this
theorem St.izn {C w : World} {V : List HP} {j : Int} (hj : j ≠ 0) {p q : HP} (s : St C w V) (i : Nat) (hV : lk V i = iz j p q) : St C w (q :: Pg.rm V i) := by
  have := s.mv i
  unfold Pg.mv at this
  rwa [hV, iz_n hj] at this
theorem St.toLz {α β : Type} {C w : World} {V : List HP} {A : Kind α} {K : Kind Int} {A0 : Option Addr} {n0 c0 e e' : Nat} {g : β → α × List Int} {v : Value} {xs : List β} (hm : ∀ x ∈ xs, (g x).2 ≠ [-1]) (s : St C w V) (i : Nat)
    (hV : lk V i = ow (Kind.iso (Kind.pair A (Kind.sl e' K)) g).share e v xs) : St C w (ow (Kind.iso (Kind.pair A (Kind.lz K A0 n0 c0)) g).share e v xs :: Pg.rm V i) := by
  have := St.kmap (K := (Kind.iso (Kind.pair A (Kind.sl e' K)) g).share) (K' := (Kind.iso (Kind.pair A (Kind.lz K A0 n0 c0)) g).share) id rfl (fun x hx I h cs o => own_lz (hm x hx) o) s i hV
  rwa [List.map_id] at this
theorem St.dz {K : Kind Int} {A : Option Addr} {n c : Nat} {C w : World} {V : List HP} {v : Value} {xs : List Int} (s : St C w V) (i : Nat) (hV : lk V i = rz K A n c v xs) : St C w (rz K A n c v xs :: V) := by
  obtain ⟨a, I, hh, g, j, l, s⟩ := s
  obtain ⟨h1, h2, j', p, s'⟩ := star_take i s
  rw [hV] at p
  exact ⟨a, I, hh, g, j, l, Hp.none, hh, Join.none hh, ⟨rfl, p.2⟩, s⟩
theorem St.unl {α β : Type} {C w : World} {V : List HP} {A : Kind α} {K : Kind Int} {A0 : Option Addr} {n0 c0 e e' e2 : Nat} {ws : List Int} {g : β → α × List Int} {v : Value} {xs : List β} (f : β → β) (hf : ∀ x, g (f x) = ((g x).1, if (g x).2 = [-1] then ws else (g x).2)) (s : St C w V) (n k : Nat)
    (hw : lk V n = ow K e2 (.slice A0 n0 c0) ws) (hV : lk (rds K (.slice A0 n0 c0) ws :: Pg.rm V n) (k + 1) = ow (Kind.iso (Kind.pair A (Kind.lz K A0 n0 c0)) g).share e v xs) :
    St C w (ow (Kind.iso (Kind.pair A (Kind.sl e' K)) g).share e v (xs.map f) :: Pg.rm (rds K (.slice A0 n0 c0) ws :: Pg.rm V n) (k + 1)) :=
  St.kmapR (K := (Kind.iso (Kind.pair A (Kind.lz K A0 n0 c0)) g).share) (K' := (Kind.iso (Kind.pair A (Kind.sl e' K)) g).share) (L := K) f rfl (fun x hx I h cs r o => own_unlz hf r o) (s.shr n hw) (k + 1) 0 hV rfl
theorem t_rz {X : Cx} {V : List HP} {σ : Env} {Q : Exit → Env → World → Prop} {ops : Array Oper} {rest : List Oper} {K : Kind Int} {A : Option Addr} {n c : Nat} {v : Value} (i : Nat) (hV : lk V i = rz K A n c v [-1]) (h : v = .slice A n c → TL X ops V σ rest Q) : TL X ops V σ rest Q := fun w s => h (s.rzo i hV) w s
end Go.Pg
