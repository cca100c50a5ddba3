import Derived.Test.YtkfgngcfcoplpaaGreatPg23
import Derived.Lib.AppendZerosOnto
import Derived.Lib.Overlaps
import Derived.Laws.Externs
set_option linter.unusedVariables false
set_option linter.unusedSimpArgs false
namespace Go.Pg
section
variable {X : Cx} {V : List HP} {σ : Env} {Q : Exit → Env → World → Prop} {ops : Array Oper} {rest : List Oper} {o : Oper} {cd : Code} {ex : Exit}
variable {d : Option Nat} {ty : TypeId} {pos : String} {af : Array Edge} {gd : Option (Nat × Bool)}
variable {α : Type}
theorem l_buildb {t e : TypeId} {parts : Array (Nat × Operand)} {cs : List Value} {v : Value} {z : List Value} {n : Nat} (hd : dok X.n d = true) (hw : want ops σ ⟨d, .buildSlice t 1 parts, ty, pos, af, gd⟩ = true)
    (ht : slB X.P t = some e) (hs : szB X.P e = some n) (hz : zcB X.P e = some z) (hzl : z.length = n) (hsz : Nat.blt 0 n = true) (hp : parts.toList.map (fun p => (p.1, ev σ p.2)) = [(0, v)]) (hv : v.cells.toList = cs) (hl : cs.length = n) (hm2 : Nat.ble n 16777216 = true)
    (h : ∀ b, TL X ops (bxl b cs e :: V) (updo σ d (.slice (some ⟨b, 0, none⟩) 1 1)) rest Q) : TL X ops V σ (⟨d, .buildSlice t 1 parts, ty, pos, af, gd⟩ :: rest) Q := by
  intro w s
  refine WL_step hd hw ?_
  have hu := slB_eq ht
  have hm2 := Nat.le_of_ble_eq_true hm2
  have hn0 : 0 < n := Nat.lt_of_lt_of_le (Nat.lt_succ_self _) (Nat.le_of_ble_eq_true hsz)
  have hcs : v.cells.size = n := by rw [← hl, ← hv]; simp
  obtain ⟨zv, hz1, hz2⟩ := run_zero (P := X.P) (w := w) hz
  have hzs : zv.cells.size = n := by rw [hz2]; simpa using hzl
  obtain ⟨r, hr, e'⟩ := fill_all (size := n) [v] 0 ((Array.range (1 * n)).map ((if 1 * n = 0 then #[] else zv.cells)[· % (if 1 * n = 0 then #[] else zv.cells).size]!)) (by simpa using hcs) (by simp)
  have er : r = cs.toArray := by
    apply Array.ext'
    rw [e']
    simp [hv, hl]
  have hrun : (execOp (ev σ) ⟨d, .buildSlice t 1 parts, ty, pos, af, gd⟩).run X.P w = .ok (.value (.slice (some ⟨w.heap.size, 0, none⟩) 1 1)) (w.alloc (.cells cs.toArray e)) := by
    have hpp : (parts.map fun (i, x) => (i, ev σ x)).toList = [(0, v)] := by
      rw [← hp]; simp
    have hr' : _ = _ := hr
    simp only [List.length_singleton] at hr'
    simp only [execOp, Instr.buildSlice, Sem.run_bind, run_underlying hu, Result.andThen_ok, run_sizeOf hs]
    rw [if_neg (by omega)]
    have h0 : ¬ (1 * n = 0) := by omega
    rw [if_neg h0] at hr' ⊢
    simp only [Sem.run_bind, Sem.run_pure, Result.andThen_ok, hz1, hpp]
    rw [show ([(0, v)] : List (Nat × Value)) = (List.range' 0 1).zip [v] from rfl]
    rw [hr', er]
    simp [newRow, Sem.run_bind]
  rw [hrun]
  refine h _ _ (St.new s (fun a => a.alloc _) (fun I _ => ⟨_, rfl, ?_, ?_⟩) ?_)
  · intro b o e
    simp only [Hp.one] at e
    split at e
    · rename_i hb
      subst hb
      rw [← Option.some.inj e]
      show (w.heap.push _)[w.heap.size]? = _
      simp
    · cases e
  · intro b hb
    simp only [Hp.one] at hb
    split at hb
    · rename_i e; exact Nat.le_of_eq e.symm
    · exact absurd rfl hb
  · intro b o e
    have hlt := (Array.getElem?_eq_some_iff.1 e).1
    show (w.heap.push _)[b]? = _
    rw [Array.getElem?_push, if_neg (Nat.ne_of_lt hlt)]
    exact e
theorem src_box {K : Kind α} {e b : Nat} {y : α} {cs : List Value} (hy : ∀ I, K.own I Hp.none y cs) : Src (bxl b cs e) K (.slice (some ⟨b, 0, none⟩) 1 1) [y] := by
  intro I h p
  obtain rfl : h = Hp.one b (.cells cs.toArray e (0, 0)) := p
  refine ⟨_, 1, cs, Hp.none, rfl, by simp [maxLen], fun _ _ e => (by cases e), ownL_single.2 (hy I), fun J _ l _ => ⟨b, 0, rfl, fun k u hu => ?_⟩⟩
  have hJ : J b = some (.cells cs.toArray e (0, 0)) := l b _ (by simp [Hp.one])
  unfold cellH
  rw [hJ]
  simpa using hu
theorem v_cap {t : TypeId} {x : Operand} {a : Option Addr} {n c : Nat} {e : TypeId} (ht : slB X.P t = some e) (hx : ev σ x = .slice a n c) : VO X V σ ⟨d, .call ⟨.builtin .cap, #[x], #[t]⟩, ty, pos, af, gd⟩ (.int .i64 c) := by
  intro w _
  have hu := slB_eq ht
  simp [execOp, resolve, invoke, builtin, hx, Builtin.cap_, run_underlying hu, goInt]
theorem l_agz {K : Kind α} {t tn e : TypeId} {x y : Operand} {g k0 m1 c k by_ : Nat} {fr : Nat × Nat} {cs olds : List Value} {z : α} (i : Nat) (hd : dok X.n d = true) (hw : want ops σ ⟨d, .call ⟨.builtin .append, #[x, y], #[t, tn]⟩, ty, pos, af, gd⟩ = true)
    (ht : slB X.P t = some e) (htn : X.P.underlying tn = some (.int .i64)) (hs : szB X.P e = some K.sz) (hb : bytesB X.P e = some by_) (hz : ZeroK X.P K e z) (hsz : 0 < K.sz) (hby : 0 < by_) (hV : lk V i = raw g e fr cs) (hx : ev σ x = .slice (some ⟨g, k0, none⟩) m1 c) (hy : ev σ y = .int .i64 (k : Int))
    (hn : olds.length = m1 * K.sz) (hc : ∀ j v, olds[j]? = some v → cs[k0 + j]? = some v) (hk : 0 < k) (hroom : c < m1 + k) (hfit : (m1 + k) * by_ ≤ 140737488355328)
    (h : ∀ g2 c2 zs, zs.length = (c2 - m1) * K.sz → m1 + k ≤ c2 → c2 ≤ maxLen → TL X ops (raw g2 e (0, 0) (olds ++ zs) :: V) (updo σ d (.slice (some ⟨g2, 0, none⟩) (m1 + k) c2)) rest Q) :
    TL X ops V σ (⟨d, .call ⟨.builtin .append, #[x, y], #[t, tn]⟩, ty, pos, af, gd⟩ :: rest) Q := by
  intro w s
  have hu := slB_eq ht
  obtain ⟨zc, hz1, hz2, hz3⟩ := hz
  unfold zcB at hz1
  unfold szB at hs
  unfold bytesB at hb
  cases hi : X.P.info? e with
  | none => rw [hi] at hs; cases hs
  | some info =>
  rw [hi] at hz1 hs hb
  simp only [Option.map_some, Option.some.injEq, Option.bind_some] at hz1 hs hb
  cases hzz : info.zero with
  | none => rw [hzz] at hz1; cases hz1
  | some zv =>
  rw [hzz] at hz1
  simp only [Option.map_some, Option.some.injEq] at hz1
  have hzsz : zv.cells.size = K.sz := by rw [← hz2, ← hz1]; simp
  have hcell : ∀ (j : Nat) (v : Value), olds[j]? = some v → w.drew.cell? ((⟨g, k0, none⟩ : Addr).add j) = some v := fun j v hj => by
    rw [add_eq]
    exact (s.drew).raw_cell i hV _ _ (hc j v hj)
  have hold := run_firstCells_some (P := X.P) w.drew info.size m1 ⟨g, k0, none⟩ m1 c olds (by rw [hs]; exact hn) hcell
  have hbig : m1 + k ≤ 140737488355328 := Nat.le_trans (Nat.le_mul_of_pos_right _ hby) hfit
  have hrun := Lib.run_append_grow_zeros (P := X.P) w t tn ty e info zv .i64 .i64 hu htn hi hzz (some ⟨g, k0, none⟩) m1 c olds hold k hk (by rw [hs]; exact hsz) hroom (by omega)
    (by rw [hb]; rw [Nat.add_mul] at hfit; omega) (by rw [hb]; exact growslice_fits hroom hfit)
  have hcap := grownCap_ge w (m1 + k) c e
  have hcm := grownCap_le_maxLen w (m1 + k) c e (by simp only [maxLen]; omega)
  refine WL_step hd hw ?_
  have hr : (execOp (ev σ) ⟨d, .call ⟨.builtin .append, #[x, y], #[t, tn]⟩, ty, pos, af, gd⟩).run X.P w = .ok (.value (.slice (some ⟨w.heap.size, 0, none⟩) (m1 + k) (grownCap w (m1 + k) c e))) (w.drew.alloc (.cells (olds.toArray ++ Builtin.zeroCells zv.cells k ++ Builtin.zeroCells zv.cells (grownCap w (m1 + k) c e - (m1 + k))) e)) := by
    simp only [execOp, resolve, invoke, builtin, Sem.run_bind, Sem.run_pure, Result.andThen_ok, List.map_toArray, List.map_cons, List.map_nil, hx, hy, hrun]
  rw [hr]
  refine h w.heap.size _ ((Builtin.zeroCells zv.cells k).toList ++ (Builtin.zeroCells zv.cells (grownCap w (m1 + k) c e - (m1 + k))).toList) ?_ hcap hcm _ ?_
  · simp only [List.length_append, Array.length_toList, size_zeroCells, hzsz]
    rw [← Nat.add_mul]
    congr 1
    omega
  · refine St.new s (fun a => a.drew.alloc _) (fun I _ => ⟨_, rfl, ?_, ?_⟩) ?_
    · intro b o e'
      simp only [Hp.one] at e'
      split at e'
      · rename_i hb'
        subst hb'
        rw [← Option.some.inj e']
        show (w.heap.push _)[w.heap.size]? = _
        simp
      · cases e'
    · intro b hb'
      simp only [Hp.one] at hb'
      split at hb'
      · rename_i e'; exact Nat.le_of_eq e'.symm
      · exact absurd rfl hb'
    · intro b o e'
      have hlt := (Array.getElem?_eq_some_iff.1 e').1
      show (w.heap.push _)[b]? = _
      rw [Array.getElem?_push, if_neg (Nat.ne_of_lt hlt)]
      exact e'
theorem v_cutn {t e : TypeId} {x : Operand} {g q n c sz : Nat} {lo hi : Option Operand} {l h : Nat} (ht : slB X.P t = some e) (hs : szB X.P e = some sz) (hx : ev σ x = .slice (some ⟨g, q, none⟩) n c)
    (hlo : bound σ lo 0 (l : Int)) (hhi : bound σ hi n (h : Int)) (h1 : l ≤ h) (h2 : h ≤ c) (h3 : l < c) : VO X V σ ⟨d, .slice t x lo hi none, ty, pos, af, gd⟩ (.slice (some ⟨g, q + l * sz, none⟩) (h - l) (c - l)) := by
  have := v_cutp (X := X) (V := V) (d := d) (ty := ty) (pos := pos) (af := af) (gd := gd) ht hs hx hlo hhi (by omega) (by omega) (by omega)
  rw [cutA_some, if_neg (by simp only [Int.toNat_natCast]; omega)] at this
  simpa using this
theorem l_cpy {t t2 e : TypeId} {x y : Operand} {g k0 dl dc g2 o2 sl c2 sz n : Nat} {fr : Nat × Nat} {cs news : List Value} (i : Nat) (hd : dok X.n d = true) (hw : want ops σ ⟨d, .call ⟨.builtin .copy, #[x, y], #[t, t2]⟩, ty, pos, af, gd⟩ = true)
    (ht : slB X.P t = some e) (hs : szB X.P e = some sz) (hV : lk V i = raw g e fr cs) (hf : fr = (0, 0) ∨ cs.length ≤ fr.1) (hx : ev σ x = .slice (some ⟨g, k0, none⟩) dl dc) (hy : ev σ y = .slice (some ⟨g2, o2, none⟩) sl c2)
    (hmin : Nat.min sl dl = n) (hn : news.length = n * sz) (hc : ∀ w, St X.C w V → ∀ (j : Nat) (v : Value), news[j]? = some v → w.cell? ⟨g2, o2 + j, none⟩ = some v) (hk : k0 + news.length ≤ cs.length) (hv : ∀ v ∈ news, v.oneCell' = true)
    (h : TL X ops (stt V i (raw g e fr (cs.take k0 ++ news ++ cs.drop (k0 + news.length)))) (updo σ d (.int .i64 (n : Int))) rest Q) :
    TL X ops V σ (⟨d, .call ⟨.builtin .copy, #[x, y], #[t, t2]⟩, ty, pos, af, gd⟩ :: rest) Q := by
  intro w s
  have hu := slB_eq ht
  obtain ⟨w', r, s'⟩ := s.raw_store (P := X.P) i hV hf news k0 hk hv
  refine WL_step hd hw ?_
  have hcell : ∀ (j : Nat) (v : Value), news[j]? = some v → w.cell? ((⟨g2, o2, none⟩ : Addr).add j) = some v := fun j v hj => by
    rw [add_eq]
    exact hc w s j v hj
  have hfc := run_firstCells_some (P := X.P) w sz n ⟨g2, o2, none⟩ sl c2 news hn hcell
  have hr : (execOp (ev σ) ⟨d, .call ⟨.builtin .copy, #[x, y], #[t, t2]⟩, ty, pos, af, gd⟩).run X.P w = .ok (.value (.int .i64 (n : Int))) w' := by
    simp [execOp, resolve, invoke, builtin, hx, hy, Builtin.copy_, run_underlying hu, run_sizeOf hs, Builtin.lenOf, hmin, hfc, r, Sem.run_bind, goInt]
  rw [hr]
  exact h w' s'
theorem look_raw {C w : World} (s : St C w V) (i : Nat) {g e : Nat} {fr : Nat × Nat} {cs : List Value} (hV : lk V i = raw g e fr cs) : w.heap[g]? = some (.cells cs.toArray e fr) := by
  obtain ⟨I, h, p, _, lh, _⟩ := s.look i
  rw [hV] at p
  obtain rfl : h = Hp.one g (.cells cs.toArray e fr) := p
  exact lh g _ (by simp [Hp.one])
theorem l_ovl {f : FuncId} {fn : Func} {xx : Array Operand} {ats : Array TypeId} {e : TypeId} {b g o2 sl c2 n T : Nat} {tS tR : TypeId} {fr : Nat × Nat} {bs cs : List Value} (i j : Nat) (hd : dok X.n d = true) (hw : want ops σ ⟨d, .call ⟨.value (.func f), xx, ats⟩, ty, pos, af, gd⟩ = true)
    (hf : X.P.funcs[f]? = some fn) (h1 : (fn.name == "runtime.NumGoroutine") = false) (h2 : fn.body.isNone = true) (h3 : Extern.findNext fn = none) (h4 : Extern.find fn = some (Extern.SlicesOverlaps.overlaps #[tS, tS] #[tR]))
    (ht : slB X.P tS = some e) (hs : szB X.P e = some n) (ha : xx.toList.map (ev σ) = [.slice (some ⟨b, 0, none⟩) 1 1, .slice (some ⟨g, o2, none⟩) sl c2]) (hne : ∀ C w, St C w V → b ≠ g) (hV1 : lk V i = bxl b bs T) (hV2 : lk V j = raw g e fr cs) (hcs : cs.length ≠ 0)
    (h : TL X ops V (updo σ d (.bool false)) rest Q) : TL X ops V σ (⟨d, .call ⟨.value (.func f), xx, ats⟩, ty, pos, af, gd⟩ :: rest) Q := by
  intro w s
  have hb : w.heap[b]? = some (.cells bs.toArray T (0, 0)) := look_bx s i hV1
  have hg := look_raw s j hV2
  refine WL_step hd hw ?_
  have hr : (execOp (ev σ) ⟨d, .call ⟨.value (.func f), xx, ats⟩, ty, pos, af, gd⟩).run X.P w = .ok (.value (.bool false)) w := by
    show (callFunc f (#[] ++ xx.map (ev σ) ++ #[])).run X.P w = _
    rw [arr_map xx _ ha, run_callFunc_extern hf h1 h2 h3 h4]
    have hrun := Lib.run_overlaps_apart (P := X.P) w tS tR e (slB_eq ht) n (fun w => run_sizeOf hs) ⟨b, 0, none⟩ ⟨g, o2, none⟩ 1 1 sl c2 (hne X.C w s) T e bs.length cs.length
      (by simp [World.shape?, hb]) (by simp [World.shape?, hg]) hcs (by simp [World.frozen?, hb]) (by simp [World.frozen?, hb])
    simp only [List.append_toArray, List.nil_append, List.append_nil] at *
    rw [hrun]
    rfl
  rw [hr]
  exact h w s
end
section
variable {C w : World} {V : List HP} {α : Type}
theorem St.box_raw_ne {b g T e : Nat} {fr : Nat × Nat} {bs cs : List Value} {q : HP} (s : St C w (raw g e fr cs :: q :: bxl b bs T :: V)) : b ≠ g := by
  rintro rfl
  obtain ⟨sm, I, hh, gg, jg, l, h1, h2, j1, p1, h3, h4, j2, p2, h5, h6, j3, p3, st⟩ := s
  obtain rfl : h1 = Hp.one b (.cells cs.toArray e fr) := p1
  obtain rfl : h5 = Hp.one b (.cells bs.toArray T (0, 0)) := p3
  have e6 : h4 b = some (.cells bs.toArray T (0, 0)) := j3.left b _ (by simp [Hp.one])
  have e2 : h2 b = some (.cells bs.toArray T (0, 0)) := j2.right b _ e6
  rcases j1.disj b with f | f
  · simp [Hp.one] at f
  · rw [f] at e2; cases e2
theorem St.inserted {K : Kind α} {e g c : Nat} {fr : Nat × Nat} {xs zs : List α} {y : α} {pre u1 yc u2 spare : List Value} (s : St C w (raw g e fr (pre ++ (u1 ++ (yc ++ u2)) ++ spare) :: own' K (xs ++ zs) (u1 ++ u2) :: V)) (hy : ∀ I, K.own I Hp.none y yc)
    (l1 : u1.length = xs.length * K.sz) (hc : (xs ++ y :: zs).length ≤ c) (hm : c ≤ maxLen) (hs : spare.length = (c - (xs ++ y :: zs).length) * K.sz) (hf : fr = (0, 0) ∨ pre.length + (u1 ++ (yc ++ u2)).length + spare.length ≤ fr.1) :
    St C w (ow K e (.slice (some ⟨g, pre.length, none⟩) (xs ++ y :: zs).length c) (xs ++ y :: zs) :: V) := by
  obtain ⟨sm, I, hh, gg, jg, l, h1, h2, jS, rfl, h3, h4, jo, ol, st⟩ := s
  have ol : ownL K I h3 (xs ++ zs) (u1 ++ u2) := ol
  obtain ⟨k1, k2, c1, c2, j1, e1, o1, o2⟩ := ownL_split ol
  have m1 := ownL_len o1
  obtain ⟨qa, qb⟩ := List.append_inj e1 (by omega)
  subst qa; subst qb
  obtain ⟨t, t1, t2⟩ := Join.assoc' jo jS
  exact ⟨sm, I, hh, gg, jg, l, t, h4, t2, .inr ⟨g, c, pre, u1 ++ (yc ++ u2), spare, fr, h3, rfl, hc, hm, hs, by simpa [Nat.add_assoc] using hf, t1, ownL_app j1 o1 ⟨Hp.none, k2, yc, u2, Join.none k2, rfl, hy I, o2⟩⟩, st⟩
end
theorem ownL_bare {α : Type} {K : Kind α} (hB : K.Bare) {I h : Hp} {xs : List α} {cs : List Value} (o : ownL K I h xs cs) : h = Hp.none := by
  induction xs generalizing h cs with
  | nil => exact o.1
  | cons x xs ih =>
    obtain ⟨h1, h2, c1, c2, j, e, a, b⟩ := o
    obtain rfl := hB _ _ _ _ a
    obtain rfl := ih b
    exact j.eq_of_none
theorem Kind.scal_bare {α : Type} (enc : α → Value) (h1 : ∀ x, (enc x).oneCell' = true) : (Kind.scal enc h1).Bare := fun _ _ _ _ h => h.1
def CellsAt {α : Type} (K : Kind α) (w : World) (g o : Nat) (ys : List α) : Prop := ∃ news, (∀ I, ownL K I Hp.none ys news) ∧ ∀ (j : Nat) (v : Value), news[j]? = some v → w.cell? ⟨g, o + j, none⟩ = some v
theorem ownL_cl {α : Type} {K : Kind α} (hC : K.Closed) {I h : Hp} {xs : List α} {cs : List Value} (o : ownL K I h xs cs) (J : Hp) : ownL K J h xs cs := ownL_closed hC o
theorem St.cellsAt {C w : World} {V : List HP} {α : Type} {K : Kind α} (hF : K.Flat) (hC : K.Closed) (s : St C w V) (j : Nat) {g o n c : Nat} {xs : List α} (hS : Sees (lk V j) K (.slice (some ⟨g, o, none⟩) n c) xs) (l k : Nat) (hl : l + k ≤ xs.length) :
    CellsAt K w g (o + l * K.sz) ((xs.drop l).take k) := by
  obtain ⟨J, lw, r⟩ := s.reads hS
  obtain ⟨news, o1, o2⟩ := flat_cells hF (J := J) (g := g) (o := o) ((xs.drop l).take k) l (fun q x hx => by
    rw [List.getElem?_take] at hx
    split at hx
    · rw [List.getElem?_drop] at hx
      exact read_cell r hx
    · cases hx)
  exact ⟨news, fun I => ownL_cl hC o1 I, fun q v hq => cell_of_H lw (o2 q v hq)⟩
theorem St.put_flat {C w : World} {V : List HP} {α : Type} {K : Kind α} {P : Program} (hB : K.Bare) (s : St C w V) (i : Nat) {e g o n c : Nat} {xs : List α} (hV : lk V i = ow K e (.slice (some ⟨g, o, none⟩) n c) xs) (ys : List α) (news : List Value) (ho : ∀ I, ownL K I Hp.none ys news) (lo : Nat) (h : lo + ys.length ≤ xs.length) :
    ∃ w', (storeCells ⟨g, o + lo * K.sz, none⟩ news).run P w = .ok () w' ∧ St C w' (stt V i (ow K e (.slice (some ⟨g, o, none⟩) n c) (xs.take lo ++ ys ++ xs.drop (lo + ys.length)))) := by
  have hnl := ownL_len (ho Hp.none)
  obtain ⟨_, w', h1, h2⟩ := St.act (β := Unit) s i (q := fun _ => ow K e (.slice (some ⟨g, o, none⟩) n c) (xs.take lo ++ ys ++ xs.drop (lo + ys.length))) (Ψ := fun _ w' => (storeCells ⟨g, o + lo * K.sz, none⟩ news).run P w = .ok () w') (by
    intro I h' p _ lw _
    rw [hV] at p
    have p : owS K e I h' (.slice (some ⟨g, o, none⟩) n c) xs := p
    rcases p with ⟨A, hv, rfl, rfl⟩ | ⟨g', c', pre, used, spare, fr, hb, hv, q2, q3, q4, q5, jo, ol⟩
    · have : ys = [] := List.eq_nil_of_length_eq_zero (by simp only [List.length_nil] at h; omega)
      subst this
      have : news = [] := (ho I).2
      subst this
      refine ⟨(), w, Hp.none, by simp [storeCells], fun h => h, ?_, fun _ _ e => (by cases e), fun _ h => absurd rfl h, fun _ _ _ h => h⟩
      exact .inl ⟨A, by simpa using hv, by simp, rfl⟩
    injection hv with e1 e2 e3
    injection e1 with e1
    injection e1 with e1 e4
    subst e1; subst e3; subst e2; subst e4
    obtain rfl := ownL_bare hB ol
    obtain rfl := (jo.symm).eq_of_none
    have hul := ownL_len ol
    have hb : w.heap[g]? = some (.cells (pre ++ used ++ spare).toArray e fr) := lw g _ (by simp [Hp.one])
    have hxs : xs.take lo ++ ((xs.drop lo).take ys.length ++ xs.drop (lo + ys.length)) = xs := by
      rw [← List.drop_drop, List.take_append_drop, List.take_append_drop]
    rw [← hxs] at ol
    obtain ⟨_, _, c1, c2, j1, e1, o1, o2⟩ := ownL_split ol
    obtain ⟨_, _, c3, c4, j2, e2, o3, o4⟩ := ownL_split o2
    obtain rfl := ownL_bare hB o1
    obtain rfl := ownL_bare hB o2
    obtain rfl := ownL_bare hB o3
    obtain rfl := ownL_bare hB o4
    subst e2; subst e1
    have m1 := ownL_len o1
    have m3 := ownL_len o3
    have m4 := ownL_len o4
    simp only [List.length_take, List.length_drop] at m1 m3 m4
    rw [Nat.min_eq_left (by omega)] at m1 m3
    have hk : pre.length + lo * K.sz + news.length ≤ (pre ++ (c1 ++ (c3 ++ c4)) ++ spare).length := by simp only [List.length_append, m1, m3, hnl]; omega
    obtain ⟨w', r, e', ot, sm⟩ := storeCells_blk (P := P) (fr := fr) (by simpa [Nat.add_assoc] using q5) news (pre.length + lo * K.sz) 0 (pre ++ (c1 ++ (c3 ++ c4)) ++ spare) w rfl hb (by simpa using hk) (ownL_one (ho Hp.none))
    have hE : (pre ++ (c1 ++ (c3 ++ c4)) ++ spare).take (pre.length + lo * K.sz) ++ news ++ (pre ++ (c1 ++ (c3 ++ c4)) ++ spare).drop (pre.length + lo * K.sz + news.length) = pre ++ (c1 ++ (news ++ c4)) ++ spare := by
      have e3 : news.length = c3.length := by rw [hnl, m3]
      rw [show pre ++ (c1 ++ (c3 ++ c4)) ++ spare = (pre ++ c1) ++ (c3 ++ (c4 ++ spare)) by simp [List.append_assoc], show pre.length + lo * K.sz = (pre ++ c1).length by simp [m1], List.take_left, List.drop_length_add_append, e3, List.drop_left]
      simp [List.append_assoc]
    have e'' : w'.heap[g]? = some (.cells (pre ++ (c1 ++ (news ++ c4)) ++ spare).toArray e fr) := by
      rw [← hE]; simpa using e'
    have hlen : (xs.take lo ++ ys ++ xs.drop (lo + ys.length)).length = xs.length := by simp only [List.length_append, List.length_take, List.length_drop]; omega
    refine ⟨(), w', Hp.one g (.cells (pre ++ (c1 ++ (news ++ c4)) ++ spare).toArray e fr), r, fun h => sm _ h, ?_, ?_, ?_, ?_⟩
    · refine .inr ⟨g, c, pre, c1 ++ (news ++ c4), spare, fr, Hp.none, by rw [hlen], by rw [hlen]; exact q2, q3, by rw [hlen]; exact q4, ?_, Join.none' _, ?_⟩
      · rcases q5 with q5 | q5
        · exact .inl q5
        · refine .inr ?_
          simp only [List.length_append, m1, m3, hnl] at q5 ⊢
          exact q5
      · rw [List.append_assoc]
        exact ownL_app (Join.none _) o1 (ownL_app (Join.none _) (ho I) o4)
    · intro b o hbo
      simp only [Hp.one] at hbo
      split at hbo
      · rename_i hbb; subst hbb; rw [← Option.some.inj hbo]; exact e''
      · cases hbo
    · intro b hb'
      refine .inl fun hn => hb' ?_
      simp only [Hp.one] at *
      split at hn
      · cases hn
      · rename_i hne; rw [if_neg hne]
    · intro b o hn hbo
      have hne : b ≠ g := by
        rintro rfl
        simp [Hp.one] at hn
      rw [ot b hne]; exact hbo)
  exact ⟨w', h1, h2⟩
section
variable {X : Cx} {V : List HP} {σ : Env} {Q : Exit → Env → World → Prop} {ops : Array Oper} {rest : List Oper} {o : Oper} {cd : Code} {ex : Exit}
variable {d : Option Nat} {ty : TypeId} {pos : String} {af : Array Edge} {gd : Option (Nat × Bool)}
variable {α : Type}
theorem l_cpw {K : Kind α} {t t2 e : TypeId} {x y : Operand} {g q n c lo dl dc g2 o2 n2 c2 l2 sl sc k : Nat} {xs zs : List α} (i j : Nat) (hF : K.Flat) (hB : K.Bare) (hC : K.Closed) (hd : dok X.n d = true) (hw : want ops σ ⟨d, .call ⟨.builtin .copy, #[x, y], #[t, t2]⟩, ty, pos, af, gd⟩ = true)
    (ht : slB X.P t = some e) (hs : szB X.P e = some K.sz) (hV : lk V i = ow K e (.slice (some ⟨g, q, none⟩) n c) xs) (hS : Sees (lk V j) K (.slice (some ⟨g2, o2, none⟩) n2 c2) zs) (hx : ev σ x = .slice (some ⟨g, q + lo * K.sz, none⟩) dl dc) (hy : ev σ y = .slice (some ⟨g2, o2 + l2 * K.sz, none⟩) sl sc)
    (hk : Nat.min sl dl = k) (h1 : lo + k ≤ xs.length) (h2 : l2 + k ≤ zs.length)
    (h : TL X ops (stt V i (ow K e (.slice (some ⟨g, q, none⟩) n c) (xs.take lo ++ (zs.drop l2).take k ++ xs.drop (lo + k)))) (updo σ d (.int .i64 (k : Int))) rest Q) :
    TL X ops V σ (⟨d, .call ⟨.builtin .copy, #[x, y], #[t, t2]⟩, ty, pos, af, gd⟩ :: rest) Q := by
  intro w s
  have hu := slB_eq ht
  obtain ⟨news, n1, n3⟩ := s.cellsAt hF hC j hS l2 k h2
  have hkl : ((zs.drop l2).take k).length = k := by rw [List.length_take, List.length_drop]; omega
  have hnl := ownL_len (n1 Hp.none)
  rw [hkl] at hnl
  obtain ⟨w', r, s'⟩ := s.put_flat (P := X.P) hB i hV _ news n1 lo (by rw [hkl]; exact h1)
  rw [hkl] at s'
  refine WL_step hd hw ?_
  have hcell : ∀ (j : Nat) (v : Value), news[j]? = some v → w.cell? ((⟨g2, o2 + l2 * K.sz, none⟩ : Addr).add j) = some v := fun j v hj => by
    rw [add_eq]
    exact n3 j v hj
  have hfc := run_firstCells_some (P := X.P) w K.sz k ⟨g2, o2 + l2 * K.sz, none⟩ sl sc news hnl hcell
  have hr : (execOp (ev σ) ⟨d, .call ⟨.builtin .copy, #[x, y], #[t, t2]⟩, ty, pos, af, gd⟩).run X.P w = .ok (.value (.int .i64 (k : Int))) w' := by
    simp [execOp, resolve, invoke, builtin, hx, hy, Builtin.copy_, run_underlying hu, run_sizeOf hs, Builtin.lenOf, hk, hfc, r, Sem.run_bind, goInt]
  rw [hr]
  exact h w' s'
theorem l_cp0 {t t2 e : TypeId} {x y : Operand} {A B : Option Addr} {dl dc sl sc sz : Nat} (hd : dok X.n d = true) (hw : want ops σ ⟨d, .call ⟨.builtin .copy, #[x, y], #[t, t2]⟩, ty, pos, af, gd⟩ = true)
    (ht : slB X.P t = some e) (hs : szB X.P e = some sz) (hx : ev σ x = .slice A dl dc) (hy : ev σ y = .slice B sl sc) (hk : Nat.min sl dl = 0) (h : TL X ops V (updo σ d (.int .i64 0)) rest Q) :
    TL X ops V σ (⟨d, .call ⟨.builtin .copy, #[x, y], #[t, t2]⟩, ty, pos, af, gd⟩ :: rest) Q := by
  intro w s
  have hu := slB_eq ht
  refine WL_step hd hw ?_
  have hr : (execOp (ev σ) ⟨d, .call ⟨.builtin .copy, #[x, y], #[t, t2]⟩, ty, pos, af, gd⟩).run X.P w = .ok (.value (.int .i64 0)) w := by
    cases A <;> cases B <;> simp [execOp, resolve, invoke, builtin, hx, hy, Builtin.copy_, run_underlying hu, run_sizeOf hs, Builtin.lenOf, hk, Sem.run_bind, goInt, Builtin.firstCells, loadCells, loadCellsFrom, storeCells]
  rw [hr]
  exact h w s
end
theorem Z2f (y : Nat) (h : y < 18446744073709551616) : bits .and .u64 (y : Int) (4294967295 : Int) = ((y % 4294967296 : Nat) : Int) := by
  have e : (BitVec.ofInt 64 (y : Int) &&& BitVec.ofInt 64 4294967295).toNat = y % 4294967296 := by
    rw [BitVec.toNat_and]
    have e1 : (BitVec.ofInt 64 (y : Int)).toNat = y := by
      rw [BitVec.toNat_ofInt]; omega
    have e2 : (BitVec.ofInt 64 (4294967295 : Int)).toNat = 2 ^ 32 - 1 := by decide
    rw [e1, e2, Nat.and_two_pow_sub_one_eq_mod]
  show IntKind.wrap .u64 ((BitVec.ofInt 64 (y : Int) &&& BitVec.ofInt 64 4294967295).toNat : Int) = _
  rw [e]
  simp [IntKind.wrap, IntKind.bits, IntKind.signed]
  omega
theorem Z2e : bits .and .u64 (1 : Int) (4294967295 : Int) = 1 := by decide
theorem rep_step {α : Type} (v z : α) {n m k : Nat} (h1 : k ≤ m) (h2 : m + k ≤ n) :
    (List.replicate m v ++ List.replicate (n - m) z).take m ++ ((List.replicate m v ++ List.replicate (n - m) z).drop 0).take k ++ (List.replicate m v ++ List.replicate (n - m) z).drop (m + k) = List.replicate (m + k) v ++ List.replicate (n - (m + k)) z := by
  have e1 : (List.replicate m v ++ List.replicate (n - m) z).take m = List.replicate m v := by
    rw [List.take_append_of_le_length (by simp), List.take_of_length_le (by simp)]
  have e2 : ((List.replicate m v ++ List.replicate (n - m) z).drop 0).take k = List.replicate k v := by
    rw [List.drop_zero, List.take_append_of_le_length (by simp; exact h1), List.take_replicate, Nat.min_eq_left h1]
  have e3 : (List.replicate m v ++ List.replicate (n - m) z).drop (m + k) = List.replicate (n - (m + k)) z := by
    rw [show m + k = (List.replicate m v).length + k by simp, List.drop_length_add_append, List.drop_replicate]
    congr 1
    simp; omega
  rw [e1, e2, e3, List.replicate_append_replicate]
def repF (n : Nat) (m : Nat) : Option (Nat ⊕ Unit) := if 0 < m ∧ m ≤ n then (if m < n then some (.inl (m + Nat.min m (n - m))) else some (.inr ())) else none
theorem repF_end (n : Nat) (h : 0 < n) : loopM (repF n) 1 = some () := by
  obtain ⟨r, h1, _⟩ := loopM_rel (f := repF n) (Post := fun _ => True) (fun m => 0 < m ∧ m ≤ n) (fun m => n - m) (s := 1) ⟨by omega, by omega⟩ (by
    rintro m ⟨h1, h2⟩
    unfold repF
    rw [if_pos ⟨h1, h2⟩]
    by_cases hm : m < n
    · rw [if_pos hm]
      have : 0 < min m (n - m) ∧ min m (n - m) ≤ n - m := ⟨by omega, by omega⟩
      refine .inl ⟨_, rfl, ⟨?_, ?_⟩, ?_⟩ <;> (show _; simp only [Nat.min_def] at *; split <;> omega)
    · rw [if_neg hm]
      exact .inr ⟨(), rfl, trivial⟩)
  exact h1
end Go.Pg
