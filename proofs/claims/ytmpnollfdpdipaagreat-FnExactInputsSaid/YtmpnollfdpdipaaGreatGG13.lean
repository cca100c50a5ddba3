import Derived.Test.YtmpnollfdpdipaaGreatGG1
import Derived.KernelRfl
set_option linter.unusedVariables false
set_option linter.unusedSimpArgs false
namespace Go.Proofs.YtmpnollfdpdipaaGreat
open Go Go.Pg
theorem IV_set {ds is:List Int}{j:Nat}{m x:Int}(hj:j<ds.length)(h:IV (ds.set j m) is)(h0:0≤x)(h1:x<ix ds (j:Int)):IV ds (is.set j x):=by
 induction ds generalizing is j with
 | nil=>simp at hj
 | cons d ds ih=>cases j with
  | zero=>cases is with
   | nil=>exact h.elim
   | cons i is=>exact ⟨⟨h0,h1⟩,h.2⟩
  | succ j=>cases is with
   | nil=>exact h.elim
   | cons i is=>rw [ix_cons] at h1; exact ⟨h.1,ih (by simpa using hj) h.2 h1⟩
theorem IV_set2 {ds is:List Int}{j:Nat}{m x:Int}(hj:j<ds.length)(h:IV ds is)(h0:0≤x)(h1:x<m):IV (ds.set j m) (is.set j x):=by
 induction ds generalizing is j with
 | nil=>simp at hj
 | cons d ds ih=>cases j with
  | zero=>cases is with
   | nil=>exact h.elim
   | cons i is=>exact ⟨⟨h0,h1⟩,h.2⟩
  | succ j=>cases is with
   | nil=>exact h.elim
   | cons i is=>exact ⟨h.1,ih (by simpa using hj) h.2⟩
theorem IV_take {ds is:List Int}(h:IV ds is)(k:Nat):IV (ds.take k) (is.take k):=by
 induction ds generalizing is k with
 | nil=>cases is with
  | nil=>simp [IV]
  | cons=>exact h.elim
 | cons d ds ih=>cases is with
  | nil=>exact h.elim
  | cons i is=>cases k with
   | zero=>simp [IV]
   | succ k=>exact ⟨h.1,ih h.2 k⟩
def GaOk (ds:List Int)(a:Int)(xs:List Int):Prop:=0≤a∧a<(ds.length:Int)∧xs≠[]∧(∀ x∈xs,0≤x∧x<ix ds a)∧OKD (ds.set a.toNat (xs.length:Int))
instance (ds:List Int)(a:Int)(xs:List Int):Decidable (GaOk ds a xs):=by unfold GaOk; infer_instance
def ScOk (ds:List Int)(a:Int)(xs:List Int)(n:Int):Prop:=0≤a∧a<(ds.length:Int)∧(xs.length:Int)=ix ds a∧(∀ x∈xs,0≤x∧x<n)∧OKD (ds.set a.toNat n)
instance (ds:List Int)(a:Int)(xs:List Int)(n:Int):Decidable (ScOk ds a xs n):=by unfold ScOk; infer_instance
def padN (ds:List Int)(a b f g:Int):Int:=b+ix ds a+(ix ds a - 1)*g+f
def PaOk (ds:List Int)(a b f g:Int):Prop:=0≤a∧a<(ds.length:Int)∧0≤b∧b≤4096∧0≤f∧f≤4096∧0≤g∧g≤4096∧OKD (ds.set a.toNat (padN ds a b f g))
instance (ds:List Int)(a b f g:Int):Decidable (PaOk ds a b f g):=by unfold PaOk; infer_instance
theorem axis4_s {t:Tensor}(h:TT t)(a:Int):Z1d t a=some (decide (0≤a∧a<(t.Dims.length:Int))):=by
 unfold Z1d
 rw [tt_s h]
 simp only [Option.bind_some,Bool.true_and]
 congr 1
 rw [Bool.eq_iff_iff]
 simp
theorem with_s {xs:List Int}(h:xs.length≤6){j:Nat}(hj:j<xs.length)(x:Int):Z0h xs (j:Int) x=some (xs.set j x):=by
 unfold Z0h
 rw [ints_s (by omega)]
 simp only [Option.bind_some]
 rw [if_pos (by omega),Int.toNat_natCast]
theorem within_s {xs:List Int}(hb:xs.length<big)(n:Int):Z0i xs n=some (decide (∀ x∈xs,0≤x∧x<n)):=by
 unfold Z0i
 have:=loop_all xs (fun s:Int=>Z0i_L1 xs n s) (fun i=>i) (fun x=>!(decide (x<0)||decide (x≥n))) (.inl false) (.inr ())
  (fun k hk=>by
   simp only [Z0i_L1]
   rw [if_pos (by simp; omega),if_pos (by omega),w64k (by omega)]
   cases (decide (ix xs (k:Int)<0)||decide (ix xs (k:Int)≥n))<;>rfl)
  (by simp only [Z0i_L1]; rw [if_neg (by simp)])
 rw [this]
 have e:(xs.all fun x=>!(decide (x<0)||decide (x≥n)))=decide (∀ x∈xs,0≤x∧x<n):=by
  rw [Bool.eq_iff_iff]
  simp only [List.all_eq_true,decide_eq_true_eq,Bool.not_eq_true',Bool.or_eq_false_iff,decide_eq_false_iff_not]
  exact ⟨fun h x hx=>by have:=h x hx; omega,fun h x hx=>by have:=h x hx; omega⟩
 rw [e]
 by_cases c:∀ x∈xs,0≤x∧x<n
 ·rw [decide_eq_true c]; rfl
 ·rw [decide_eq_false c]; rfl
theorem gather_s {t:Tensor}(h:TT t){a:Int}{xs:List Int}(hb:xs.length<big) :
  (GaOk t.Dims a xs→∃ d,Z0q t a xs=some ⟨t.Dims.set a.toNat (xs.length:Int),d⟩∧TOk (t.Dims.set a.toNat (xs.length:Int)) d)∧(¬ GaOk t.Dims a xs→Z0q t a xs=some ⟨[],[]⟩):=by
 have hl:=tlen h
 unfold Z0q
 rw [axis4_s h]
 simp only [Option.bind_some]
 by_cases g:(0≤a∧a<(t.Dims.length:Int))∧xs≠[]
 ·obtain ⟨g1,g2⟩:=g
  have g3:xs.length≠0:=fun e=>g2 (List.eq_nil_of_length_eq_zero e)
  obtain ⟨j,rfl⟩:=Int.eq_ofNat_of_zero_le g1.1
  have hj:j<t.Dims.length:=by omega
  have b1:(!decide (0≤(j:Int)∧(j:Int)<(t.Dims.length:Int))||(xs.length:Int)==0)=false:=by rw [decide_eq_true g1]; simp [g2]
  rw [if_pos (fun _=>g1),b1]
  simp only [gcall,Bool.not_false,cond_true,Bool.false_or]
  rw [within_s hb]
  simp only [Option.bind_some,Int.toNat_natCast]
  by_cases g4:∀ x∈xs,0≤x∧x<ix t.Dims (j:Int)
  ·rw [decide_eq_true g4,if_neg (by simp),with_s hl.2 hj]
   simp only [Option.bind_some]
   rw [dims_s (by simp [big]; omega)]
   by_cases g5:OKD (t.Dims.set j (xs.length:Int))
   ·simp only [decide_eq_true g5,Option.bind_some,Bool.not_true,Bool.false_eq_true,if_false]
    refine ⟨fun _=>?_,fun q=>absurd ⟨g1.1,g1.2,g2,g4,by simpa using g5⟩ q⟩
    rw [new_s g5]
    simp only [Option.bind_some]
    have hp:=g5.2.2
    obtain ⟨r,e1,e2⟩:=fillL (f:=fun s:List Int×Int=>Z0q_L1 t (j:Int) xs (t.Dims.set j (xs.length:Int)) ⟨t.Dims.set j (xs.length:Int),List.replicate (pr (t.Dims.set j (xs.length:Int))).toNat 0⟩ s.1 s.2) (Post:=fun r=>RG (pr (t.Dims.set j (xs.length:Int))).toNat r) (pr (t.Dims.set j (xs.length:Int))).toNat (pr (t.Dims.set j (xs.length:Int))).toNat
     (fun k hk x hx=>by
      have hi:=idx_IV g5.2.1 (k:Int)
      have hil:=idx_len (t.Dims.set j (xs.length:Int)) (k:Int)
      have him:=hi.mem (j:=j) (by rw [hil]; simpa using hj)
      rw [ix_set hj] at him
      obtain ⟨q,hq⟩:=Int.eq_ofNat_of_zero_le him.1
      have hx1:=g4 _ (ix_mem (xs:=xs) (k:=q) (by omega))
      have hset:=IV_set hj hi hx1.1 hx1.2
      obtain ⟨y,y1,y2⟩:=get_s h hset
      simp only [Z0q_L1]
      rw [if_pos (by simp; omega),index_s g5 (by omega) (by omega)]
      simp only [Option.bind_some]
      rw [if_pos (by rw [hil]; simp; omega),if_pos (by omega),with_s (by rw [hil]; simpa using hl.2) (by rw [hil]; simpa using hj)]
      simp only [Option.bind_some,hq,y1]
      rw [if_pos (by simp; omega),w64k (by unfold big; omega)]
      exact ⟨_,rfl,hx.set (h.x y y2) _⟩)
     (fun x hx=>by simp only [Z0q_L1]; rw [if_neg (by simp)]; exact ⟨x,rfl,hx⟩) (RG.rep _)
    rw [e1]
    exact ⟨r,rfl,tok_of g5 e2⟩
   ·simp only [decide_eq_false g5,Option.bind_some,Bool.not_false,if_true]
    exact ⟨fun q=>absurd (by simpa using q.2.2.2.2) g5,fun _=>by trivial⟩
  ·rw [decide_eq_false g4,if_pos (by simp)]
   exact ⟨fun q=>absurd q.2.2.2.1 g4,fun _=>by trivial⟩
 ·have b1:(!decide (0≤a∧a<(t.Dims.length:Int))||(xs.length:Int)==0)=true:=by
   by_cases q:0≤a∧a<(t.Dims.length:Int)
   ·have:xs=[]:=by
     refine Classical.byContradiction fun z=>g ⟨q,z⟩
    subst this; simp
   ·rw [decide_eq_false q]; rfl
  rw [if_pos (fun q=>by rw [b1] at q; cases q),b1]
  simp only [gcall,Bool.not_true,cond_false,Option.bind_some,Bool.true_or,if_true]
  exact ⟨fun q=>absurd ⟨⟨q.1,q.2.1⟩,q.2.2.1⟩ g,fun _=>by trivial⟩
theorem scatter_s {t:Tensor}(h:TT t){a n:Int}{xs:List Int}(hb:xs.length<big) :
  (ScOk t.Dims a xs n→∃ d,Z0s t a xs n=some ⟨t.Dims.set a.toNat n,d⟩∧TOk (t.Dims.set a.toNat n) d)∧(¬ ScOk t.Dims a xs n→Z0s t a xs n=some ⟨[],[]⟩):=by
 have hl:=tlen h
 unfold Z0s
 rw [axis4_s h]
 simp only [Option.bind_some]
 by_cases g1:0≤a∧a<(t.Dims.length:Int)
 ·obtain ⟨j,rfl⟩:=Int.eq_ofNat_of_zero_le g1.1
  have hj:j<t.Dims.length:=by omega
  rw [decide_eq_true g1,if_pos (fun _=>g1)]
  simp only [gcall,Bool.not_true,Bool.false_or,Int.toNat_natCast]
  by_cases g2:(xs.length:Int)=ix t.Dims (j:Int)
  ·have b2:((xs.length:Int) != ix t.Dims (j:Int))=false:=by simp [g2]
   rw [b2]
   simp only [Bool.not_false,cond_true,Bool.false_or]
   rw [within_s hb]
   simp only [Option.bind_some]
   by_cases g4:∀ x∈xs,0≤x∧x<n
   ·rw [decide_eq_true g4,if_neg (by simp),with_s hl.2 hj]
    simp only [Option.bind_some]
    rw [dims_s (by simp [big]; omega)]
    by_cases g5:OKD (t.Dims.set j n)
    ·simp only [decide_eq_true g5,Option.bind_some,Bool.not_true,Bool.false_eq_true,if_false]
     refine ⟨fun _=>?_,fun q=>absurd ⟨g1.1,g1.2,g2,g4,by simpa using g5⟩ q⟩
     rw [new_s g5]
     simp only [Option.bind_some]
     have hp:=h.d.2.2
     obtain ⟨r,e1,e2⟩:=fillL (f:=fun s:List Int×Int=>Z0s_L1 t (j:Int) xs ⟨t.Dims.set j n,List.replicate (pr (t.Dims.set j n)).toNat 0⟩ s.1 s.2) (Post:=fun r=>RG (pr (t.Dims.set j n)).toNat r) (pr (t.Dims.set j n)).toNat t.Data.length
      (fun k hk x hx=>by
       have hi:=idx_IV h.d.2.1 (k:Int)
       have hil:=idx_len t.Dims (k:Int)
       have him:=hi.mem (j:=j) (by omega)
       obtain ⟨q,hq⟩:=Int.eq_ofNat_of_zero_le him.1
       have hx1:=g4 _ (ix_mem (xs:=xs) (k:=q) (by omega))
       have hset:=IV_set2 (m:=n) hj hi hx1.1 hx1.2
       have tk:TT ⟨t.Dims.set j n,x⟩:=tok_of g5 hx
       obtain ⟨y,y1,y2⟩:=get_s (t:=⟨t.Dims.set j n,x⟩) tk hset
       obtain ⟨m,m1,m2⟩:=plus_s y (ix t.Data (k:Int))
       simp only [Z0s_L1]
       rw [if_pos (by simp; omega),index_s h.d (by omega) (by omega)]
       simp only [Option.bind_some]
       rw [if_pos (by omega),if_pos (by omega),with_s (by omega) (by omega)]
       simp only [Option.bind_some,hq,y1]
       rw [if_pos (by omega),m1]
       simp only [Option.bind_some]
       rw [set_s (t:=⟨t.Dims.set j n,x⟩) g5 tk.l hset,w64k (by unfold big; omega)]
       exact ⟨_,rfl,hx.set m2 _⟩)
      (fun x hx=>by simp only [Z0s_L1]; rw [if_neg (by simp)]; exact ⟨x,rfl,hx⟩) (RG.rep _)
     rw [e1]
     exact ⟨r,rfl,tok_of g5 e2⟩
    ·simp only [decide_eq_false g5,Option.bind_some,Bool.not_false,if_true]
     exact ⟨fun q=>absurd (by simpa using q.2.2.2.2) g5,fun _=>by trivial⟩
   ·rw [decide_eq_false g4,if_pos (by simp)]
    exact ⟨fun q=>absurd q.2.2.2.1 g4,fun _=>by trivial⟩
  ·have b2:((xs.length:Int) != ix t.Dims (j:Int))=true:=by simp [g2]
   rw [b2]
   simp only [Bool.not_true,cond_false,Option.bind_some,Bool.true_or,if_true]
   exact ⟨fun q=>absurd q.2.2.1 g2,fun _=>by trivial⟩
 ·rw [decide_eq_false g1,if_pos (fun q=>by cases q)]
  simp only [gcall,Bool.not_false,Bool.true_or,Bool.not_true,cond_false,Option.bind_some,if_true]
  exact ⟨fun q=>absurd ⟨q.1,q.2.1⟩ g1,fun _=>by trivial⟩
theorem pad_s {t:Tensor}(h:TT t){a b f g:Int} :
  (PaOk t.Dims a b f g→∃ d,Z0r t a b f g=some ⟨t.Dims.set a.toNat (padN t.Dims a b f g),d⟩∧TOk (t.Dims.set a.toNat (padN t.Dims a b f g)) d)∧(¬ PaOk t.Dims a b f g→Z0r t a b f g=some ⟨[],[]⟩):=by
 have hl:=tlen h
 unfold Z0r
 rw [axis4_s h]
 simp only [Option.bind_some]
 by_cases c:(0≤a∧a<(t.Dims.length:Int))∧0≤b∧b≤4096∧0≤f∧f≤4096∧0≤g∧g≤4096
 ·obtain ⟨g1,c1,c2,c3,c4,c5,c6⟩:=c
  obtain ⟨j,rfl⟩:=Int.eq_ofNat_of_zero_le g1.1
  have hj:j<t.Dims.length:=by omega
  have hm:=h.d.2.mem (ix_mem hj)
  have k0:0≤(ix t.Dims (j:Int) - 1)*g:=Int.mul_nonneg (by omega) c5
  have k1:=Int.mul_le_mul (show ix t.Dims (j:Int) - 1≤4096 by omega) c6 c5 (show (0:Int)≤4096 by omega)
  have e:w64 (w64 (w64 (b+ix t.Dims (j:Int))+w64 (w64 (ix t.Dims (j:Int) - 1)*g))+f)=padN t.Dims (j:Int) b f g:=by
   rw [w64_id (n:=b+ix t.Dims (j:Int)) (by omega) (by omega),w64_id (n:=ix t.Dims (j:Int) - 1) (by omega) (by omega),w64_id (n:=(ix t.Dims (j:Int) - 1)*g) (by omega) (by omega),w64_id (n:=b+ix t.Dims (j:Int)+(ix t.Dims (j:Int) - 1)*g) (by omega) (by omega),w64_id (by omega) (by omega)]
   rfl
  rw [if_neg (by simp; omega),if_pos g1,e,with_s hl.2 hj]
  simp only [Option.bind_some,Int.toNat_natCast]
  rw [dims_s (by simp [big]; omega)]
  by_cases g5:OKD (t.Dims.set j (padN t.Dims (j:Int) b f g))
  ·simp only [decide_eq_true g5,Option.bind_some,Bool.not_true,Bool.false_eq_true,if_false]
   refine ⟨fun _=>?_,fun q=>absurd ⟨g1.1,g1.2,c1,c2,c3,c4,c5,c6,by simpa using g5⟩ q⟩
   rw [new_s g5]
   simp only [Option.bind_some]
   have hp:=h.d.2.2
   obtain ⟨r,e1,e2⟩:=fillL (f:=fun s:List Int×Int=>Z0r_L1 t (j:Int) b g ⟨t.Dims.set j (padN t.Dims (j:Int) b f g),List.replicate (pr (t.Dims.set j (padN t.Dims (j:Int) b f g))).toNat 0⟩ s.1 s.2) (Post:=fun r=>RG (pr (t.Dims.set j (padN t.Dims (j:Int) b f g))).toNat r) (pr (t.Dims.set j (padN t.Dims (j:Int) b f g))).toNat t.Data.length
    (fun k hk x hx=>by
     have hi:=idx_IV h.d.2.1 (k:Int)
     have hil:=idx_len t.Dims (k:Int)
     have him:=hi.mem (j:=j) (by omega)
     have z0:0≤ix (idx t.Dims (k:Int)) (j:Int)*g:=Int.mul_nonneg him.1 c5
     have z1:ix (idx t.Dims (k:Int)) (j:Int)*g≤(ix t.Dims (j:Int) - 1)*g:=Int.mul_le_mul_of_nonneg_right (by omega) c5
     have ee:w64 (b+w64 (ix (idx t.Dims (k:Int)) (j:Int)*w64 (g+1)))=b+(ix (idx t.Dims (k:Int)) (j:Int)*g+ix (idx t.Dims (k:Int)) (j:Int)):=by
      rw [w64_id (n:=g+1) (by omega) (by omega),Int.mul_add,Int.mul_one,w64_id (n:=ix (idx t.Dims (k:Int)) (j:Int)*g+ix (idx t.Dims (k:Int)) (j:Int)) (by omega) (by omega),w64_id (by omega) (by omega)]
     have hset:=IV_set2 (m:=padN t.Dims (j:Int) b f g) (x:=b+(ix (idx t.Dims (k:Int)) (j:Int)*g+ix (idx t.Dims (k:Int)) (j:Int))) hj hi (by omega) (by unfold padN; omega)
     have tk:TT ⟨t.Dims.set j (padN t.Dims (j:Int) b f g),x⟩:=tok_of g5 hx
     simp only [Z0r_L1]
     rw [if_pos (by simp; omega),index_s h.d (by omega) (by omega)]
     simp only [Option.bind_some]
     rw [if_pos (by omega),ee,with_s (by omega) (by omega)]
     simp only [Option.bind_some]
     rw [if_pos (by omega),set_s (t:=⟨t.Dims.set j (padN t.Dims (j:Int) b f g),x⟩) g5 tk.l hset,w64k (by unfold big; omega)]
     exact ⟨_,rfl,hx.set (h.x _ (ix_mem hk)) _⟩)
    (fun x hx=>by simp only [Z0r_L1]; rw [if_neg (by simp)]; exact ⟨x,rfl,hx⟩) (RG.rep _)
   rw [e1]
   exact ⟨r,rfl,tok_of g5 e2⟩
  ·simp only [decide_eq_false g5,Option.bind_some,Bool.not_false,if_true]
   exact ⟨fun q=>absurd (by simpa using q.2.2.2.2.2.2.2.2) g5,fun _=>by trivial⟩
 ·rw [if_pos (by simp only [Bool.or_eq_true,Bool.not_eq_true',decide_eq_true_eq,decide_eq_false_iff_not]; omega)]
  exact ⟨fun q=>absurd ⟨⟨q.1,q.2.1⟩,q.2.2.1,q.2.2.2.1,q.2.2.2.2.1,q.2.2.2.2.2.1,q.2.2.2.2.2.2.1,q.2.2.2.2.2.2.2.1⟩ c,fun _=>by trivial⟩
def FoOk (ds:List Int)(a st n:Int):Prop:=0≤a∧a<(ds.length:Int)∧a≠(ds.length:Int) - 1∧1≤st∧1≤n∧n≤4096∧ix ds ((ds.length:Int) - 1)≤n∧(n - ix ds ((ds.length:Int) - 1)) / st+1=ix ds a∧OKD ((ds.set a.toNat n).take (ds.length - 1))
instance (ds:List Int)(a st n:Int):Decidable (FoOk ds a st n):=by unfold FoOk; infer_instance
theorem sub0 {α:Type}(xs:List α)(k:Nat):sub xs 0 (k:Int)=xs.take k:=by simp [sub]
theorem fold_s {t:Tensor}(h:TT t){a st n:Int} :
  (FoOk t.Dims a st n→∃ d,Z0p t a st n=some ⟨(t.Dims.set a.toNat n).take (t.Dims.length - 1),d⟩∧TOk ((t.Dims.set a.toNat n).take (t.Dims.length - 1)) d)∧(¬ FoOk t.Dims a st n→Z0p t a st n=some ⟨[],[]⟩):=by
 have hl:=tlen h
 have w1:w64 ((t.Dims.length:Int) - 1)=(t.Dims.length:Int) - 1:=w64_id (by omega) (by omega)
 unfold Z0p
 rw [axis4_s h,w1]
 simp only [Option.bind_some]
 by_cases c:(0≤a∧a<(t.Dims.length:Int))∧a≠(t.Dims.length:Int) - 1∧1≤st∧1≤n∧n≤4096
 ·obtain ⟨g1,c1,c2,c3,c4⟩:=c
  obtain ⟨j,rfl⟩:=Int.eq_ofNat_of_zero_le g1.1
  have hj:j<t.Dims.length:=by omega
  obtain ⟨l,hle⟩:∃ l,l=t.Dims.length - 1:=⟨_,rfl⟩
  have hlc:(t.Dims.length:Int) - 1=(l:Int):=by omega
  have w2:w64 (l:Int)=(l:Int):=w64_id (by omega) (by omega)
  have hm:=h.d.2.mem (ix_mem hj)
  have hml:=h.d.2.mem (ix_mem (xs:=t.Dims) (k:=l) (by omega))
  rw [hlc] at c1 ⊢
  rw [if_neg (by simp; omega),if_pos (by omega),if_pos (fun _=>by omega),if_pos (fun _=>g1)]
  unfold FoOk
  rw [hlc,← hle]
  by_cases c5:ix t.Dims (l:Int)≤n
  ·have q0:0≤(n - ix t.Dims (l:Int)) / st:=Int.ediv_nonneg (by omega) (by omega)
   have q1:(n - ix t.Dims (l:Int)) / st≤n - ix t.Dims (l:Int):=Int.ediv_le_self _ (by omega)
   have e:w64 (w64 ((w64 (n - ix t.Dims (l:Int))).tdiv st)+1)=(n - ix t.Dims (l:Int)) / st+1:=by
    rw [w64_id (n:=n - ix t.Dims (l:Int)) (by omega) (by omega),Int.tdiv_eq_ediv_of_nonneg (by omega),w64_id (n:=(n - ix t.Dims (l:Int)) / st) (by omega) (by omega),w64_id (by omega) (by omega)]
   rw [e]
   by_cases c6:(n - ix t.Dims (l:Int)) / st+1=ix t.Dims (j:Int)
   ·rw [if_neg (by simp [c6]; omega),with_s hl.2 hj]
    simp only [Option.bind_some,Int.toNat_natCast]
    rw [if_pos (by simp; omega),sub0,dims_s (by simp [big]; omega)]
    by_cases g5:OKD ((t.Dims.set j n).take l)
    ·simp only [decide_eq_true g5,Option.bind_some,Bool.not_true,Bool.false_eq_true,if_false]
     refine ⟨fun _=>?_,fun q=>absurd ⟨g1.1,g1.2,c1,c2,c3,c4,c5,c6,g5⟩ q⟩
     rw [new_s g5]
     simp only [Option.bind_some]
     have hp:=h.d.2.2
     have q3:=Int.ediv_mul_le (n - ix t.Dims (l:Int)) (show st≠0 by omega)
     obtain ⟨r,e1,e2⟩:=fillL (f:=fun s:List Int×Int=>Z0p_L1 t (j:Int) st ⟨(t.Dims.set j n).take l,List.replicate (pr ((t.Dims.set j n).take l)).toNat 0⟩ s.1 s.2) (Post:=fun r=>RG (pr ((t.Dims.set j n).take l)).toNat r) (pr ((t.Dims.set j n).take l)).toNat t.Data.length
      (fun k hk x hx=>by
       have hi:=idx_IV h.d.2.1 (k:Int)
       have hil:=idx_len t.Dims (k:Int)
       have him:=hi.mem (j:=j) (by omega)
       have himl:=hi.mem (j:=l) (by omega)
       have z0:0≤ix (idx t.Dims (k:Int)) (j:Int)*st:=Int.mul_nonneg him.1 (by omega)
       have z1:ix (idx t.Dims (k:Int)) (j:Int)*st≤(n - ix t.Dims (l:Int)) / st*st:=Int.mul_le_mul_of_nonneg_right (by omega) (by omega)
       have ee:w64 (w64 (ix (idx t.Dims (k:Int)) (j:Int)*st)+ix (idx t.Dims (k:Int)) (l:Int))=ix (idx t.Dims (k:Int)) (j:Int)*st+ix (idx t.Dims (k:Int)) (l:Int):=by
        rw [w64_id (n:=ix (idx t.Dims (k:Int)) (j:Int)*st) (by omega) (by omega),w64_id (by omega) (by omega)]
       have hset:=IV_take (IV_set2 (m:=n) (x:=ix (idx t.Dims (k:Int)) (j:Int)*st+ix (idx t.Dims (k:Int)) (l:Int)) hj hi (by omega) (by omega)) l
       have tk:TT ⟨(t.Dims.set j n).take l,x⟩:=tok_of g5 hx
       obtain ⟨y,y1,y2⟩:=get_s (t:=⟨(t.Dims.set j n).take l,x⟩) tk hset
       obtain ⟨m,m1,m2⟩:=plus_s y (ix t.Data (k:Int))
       simp only [Z0p_L1,hlc,w2]
       rw [if_pos (by simp; omega),index_s h.d (by omega) (by omega)]
       simp only [Option.bind_some]
       rw [if_pos (by omega),if_pos (by omega),ee,with_s (by omega) (by omega)]
       simp only [Option.bind_some]
       rw [if_pos (by simp; omega),sub0,y1]
       simp only [Option.bind_some]
       rw [if_pos (by omega),m1]
       simp only [Option.bind_some]
       rw [set_s (t:=⟨(t.Dims.set j n).take l,x⟩) g5 tk.l hset,w64k (by unfold big; omega)]
       exact ⟨_,rfl,hx.set m2 _⟩)
      (fun x hx=>by simp only [Z0p_L1]; rw [if_neg (by simp)]; exact ⟨x,rfl,hx⟩) (RG.rep _)
     rw [e1]
     exact ⟨r,rfl,tok_of g5 e2⟩
    ·simp only [decide_eq_false g5,Option.bind_some,Bool.not_false,if_true]
     exact ⟨fun q=>absurd q.2.2.2.2.2.2.2.2 g5,fun _=>by trivial⟩
   ·rw [if_pos (by simp [c6])]
    exact ⟨fun q=>absurd q.2.2.2.2.2.2.2.1 c6,fun _=>by trivial⟩
  ·rw [if_pos (by simp; omega)]
   exact ⟨fun q=>absurd q.2.2.2.2.2.2.1 c5,fun _=>by trivial⟩
 ·rw [if_pos (by simp only [Bool.or_eq_true,Bool.not_eq_true',decide_eq_true_eq,decide_eq_false_iff_not,beq_iff_eq]; omega)]
  exact ⟨fun q=>absurd ⟨⟨q.1,q.2.1⟩,q.2.2.1,q.2.2.2.1,q.2.2.2.2.1,q.2.2.2.2.2.1⟩ c,fun _=>by trivial⟩
theorem line_s {t:Tensor}(h:TT t){j:Nat}(hj:j<t.Dims.length){is:List Int}(hi:IV t.Dims is):∃ xs,Z0v t (j:Int) is=some xs∧xs.length≤4096:=by
 have hl:=tlen h
 have hil:=hi.len
 have hm:=h.d.2.mem (ix_mem hj)
 unfold Z0v
 obtain ⟨r,e1,e2⟩:=loopI (f:=fun s:List Int×Int=>Z0v_L1 t (j:Int) is s.1 s.2) (fun k s=>s.2=(k:Int)∧s.1.length=k) (ix t.Dims (j:Int)).toNat (Post:=fun r=>r.length≤4096)
  (fun k s hk hI=>by
   obtain ⟨x,i⟩:=s
   obtain ⟨hi2,hr⟩:=hI
   simp only at hi2 hr
   subst hi2
   have hset:IV t.Dims (is.set j (k:Int)):=by
    have:=IV_set2 (m:=ix t.Dims (j:Int)) (x:=(k:Int)) hj hi (by omega) (by omega)
    have e:t.Dims.set j (ix t.Dims (j:Int))=t.Dims:=by rw [ix_at hj]; simp
    rw [e] at this; exact this
   obtain ⟨y,y1,_⟩:=get_s h hset
   simp only [Z0v_L1]
   rw [if_pos (by omega),if_pos (by simp; omega),with_s (by omega) (by omega)]
   simp only [Option.bind_some,y1]
   rw [if_pos (by simp; omega),w64k (by unfold big; omega)]
   exact ⟨_,rfl,rfl,by simp [hr]⟩)
  (fun s hI=>by
   obtain ⟨x,i⟩:=s
   obtain ⟨hi2,hr⟩:=hI
   simp only at hi2 hr
   subst hi2
   simp only [Z0v_L1]
   rw [if_pos (by omega),if_neg (by simp; omega)]
   exact ⟨x,rfl,by omega⟩) (s:=([],0)) ⟨rfl,rfl⟩
 rw [e1]
 exact ⟨r,rfl,e2⟩
theorem top_s {t:Tensor}(h:TT t){a:Int}:(0≤a∧a<(t.Dims.length:Int)→∃ d,Za t a=some ⟨t.Dims,d⟩∧TOk t.Dims d)∧(¬ (0≤a∧a<(t.Dims.length:Int))→Za t a=some ⟨[],[]⟩):=by
 have hl:=tlen h
 unfold Za
 rw [axis4_s h]
 simp only [Option.bind_some]
 by_cases g1:0≤a∧a<(t.Dims.length:Int)
 ·obtain ⟨j,rfl⟩:=Int.eq_ofNat_of_zero_le g1.1
  have hj:j<t.Dims.length:=by omega
  rw [decide_eq_true g1,if_neg (by simp),new_s h.d]
  simp only [Option.bind_some]
  refine ⟨fun _=>?_,fun q=>absurd g1 q⟩
  have hp:=h.d.2.2
  have hn:(pr t.Dims).toNat=t.Data.length:=(rg_of h).1.symm
  obtain ⟨r,e1,e2⟩:=fillL (f:=fun s:List Int×Int=>Za_L1 t (j:Int) ⟨t.Dims,List.replicate (pr t.Dims).toNat 0⟩ s.1 s.2) (Post:=fun r=>RG (pr t.Dims).toNat r) (pr t.Dims).toNat t.Data.length
   (fun k hk x hx=>by
    have hi:=idx_IV h.d.2.1 (k:Int)
    have hil:=idx_len t.Dims (k:Int)
    obtain ⟨xs,x1,x2⟩:=line_s h hj hi
    simp only [Za_L1]
    rw [if_pos (by simp; omega),index_s h.d (by omega) (by omega)]
    simp only [Option.bind_some,x1]
    obtain ⟨b,b1,_⟩:=loopI (f:=fun s:Bool×Int=>Za_L2 t (j:Int) (k:Int) (idx t.Dims (k:Int)) xs s.1 s.2) (fun q s=>s.2=(q:Int)) xs.length (Post:=fun _=>True)
     (fun q s hq hI=>by
      obtain ⟨b,i⟩:=s
      simp only at hI
      subst hI
      obtain ⟨u,hu⟩:=signed_s (ix xs (q:Int))
      obtain ⟨v,hv⟩:=signed_s (ix t.Data (k:Int))
      simp only [Za_L2,Za_J6]
      rw [if_pos (by simp; omega),if_pos (by omega),hu]
      simp only [Option.bind_some]
      rw [if_pos (by omega),hv]
      simp only [Option.bind_some]
      rw [if_pos (fun _ _=>by omega),w64k (by unfold big; omega)]
      split<;>exact ⟨_,rfl,rfl⟩)
     (fun s hI=>by
      obtain ⟨b,i⟩:=s
      simp only at hI
      subst hI
      simp only [Za_L2]
      rw [if_neg (by simp)]
      exact ⟨b,rfl,trivial⟩) (s:=(true,0)) rfl
    rw [b1]
    simp only [Option.bind_some,Za_J7,Za_J8]
    rw [w64k (by unfold big; omega)]
    split
    ·rw [if_pos (by simp; omega)]
     exact ⟨_,rfl,hx.set (by decide) _⟩
    ·exact ⟨_,rfl,hx⟩)
   (fun x hx=>by simp only [Za_L1]; rw [if_neg (by simp)]; exact ⟨x,rfl,hx⟩) (RG.rep _)
  rw [e1]
  exact ⟨r,rfl,tok_of h.d e2⟩
 ·rw [decide_eq_false g1,if_pos (by simp)]
  exact ⟨fun q=>absurd q g1,fun _=>by trivial⟩
theorem growL {α R:Type}{f:List α×Int→Option ((List α×Int)⊕R)}(n w cap:Nat){Post:R→Prop}(x:List α)(hs:∀ j:Nat,j<n→∀ y,y.length+w≤cap→∃ y',f (y,(j:Int))=some (.inl (y',((j+1:Nat):Int)))∧y'.length≤y.length+w)
  (he:∀ y,y.length≤x.length+n*w→∃ r,f (y,(n:Int))=some (.inr r)∧Post r) (hc:x.length+n*w≤cap):∃ r,loopM f (x,0)=some r∧Post r :=
 loopI (f:=f) (fun j s=>s.2=(j:Int)∧s.1.length≤x.length+j*w) n (fun j s hj hI=>by
  obtain ⟨y,i⟩:=s
  obtain ⟨rfl,hr⟩:=hI
  have h1:(j+1)*w≤n*w:=Nat.mul_le_mul_right w hj
  rw [Nat.succ_mul] at h1
  simp only at hr
  obtain ⟨y',g1,g2⟩:=hs j hj y (by omega)
  exact ⟨_,g1,rfl,by rw [Nat.succ_mul]; simp only; omega⟩) (fun s hI=>by
  obtain ⟨y,i⟩:=s
  obtain ⟨rfl,hr⟩:=hI
  exact he y hr) (s:=(x,0)) ⟨rfl,by simp⟩
theorem with_i {xs:List Int}(h:xs.length≤6){j:Nat}(hj:j<xs.length)(x:Int):Z1i xs (j:Int) x=some (xs.set j x):=by
 unfold Z1i
 rw [clone_i (by omega)]
 simp only [Option.bind_some]
 rw [if_pos (by omega),Int.toNat_natCast]
theorem lines_i {ds:List Int}(h:OKD ds){j:Nat}(hj:j<ds.length):Z1z ds (j:Int)=some (pr (ds.take j),ix ds (j:Int),pr (ds.drop (j+1))):=by
 have hn:=h.1
 unfold Z1z
 rw [if_pos (by omega),sub0,prod_i (by simp [big]; omega) (h.2.take j)]
 simp only [Option.bind_some]
 rw [if_pos (by omega),w64k (by unfold big; omega),if_pos (by omega),sub_all,Int.toNat_natCast,prod_i (by simp [big]; omega) (h.2.drop (j+1))]
 rfl
theorem along_i {ds:List Int}(h:OKD ds){j:Nat}(hj:j<ds.length)(n:Int){l:List pair}(hl:l.length≤4096):∃ ps,Z7 ds (j:Int) n l=some ps:=by
 have hn:=h.1
 unfold Z7
 rw [lines_i h hj]
 simp only [Option.bind_some]
 obtain ⟨a,ha⟩:∃ a:Nat,(a:Int)=pr (ds.take j):=⟨(pr (ds.take j)).toNat,by have:=(h.2.take j).pos; omega⟩
 obtain ⟨b,hb⟩:∃ b:Nat,(b:Int)=pr (ds.drop (j+1)):=⟨(pr (ds.drop (j+1))).toNat,by have:=(h.2.drop (j+1)).pos; omega⟩
 have a1:=(h.2.take j).2
 have b1:=(h.2.drop (j+1)).2
 have a0:=(h.2.take j).pos
 have b0:=(h.2.drop (j+1)).pos
 rw [← ha] at a1 a0 ⊢
 rw [← hb] at b1 b0 ⊢
 have k1:(a:Int)*b≤4096*4096:=Int.mul_le_mul a1 b1 (by omega) (by omega)
 have k0:0≤(a:Int)*b:=Int.mul_nonneg (by omega) (by omega)
 have k3:(a:Int)*b*l.length≤4096*4096*4096:=Int.mul_le_mul k1 (by omega) (by omega) (by omega)
 have k4:0≤(a:Int)*b*l.length:=Int.mul_nonneg k0 (by omega)
 have lb:l.length*b≤4096*4096:=Nat.mul_le_mul hl (by omega)
 have alb:a*(l.length*b)≤4096*(4096*4096):=Nat.mul_le_mul (by omega) lb
 rw [w64_id (n:=(a:Int)*b) (by omega) (by omega),w64_id (by omega) (by omega),if_pos (by omega)]
 obtain ⟨r,e,_⟩:=growL (f:=fun s:List pair×Int=>Z7_L1 n l ((a:Int),ix ds (j:Int),(b:Int)) s.1 s.2) a (l.length*b) 8796093022208 (Post:=fun _=>True) []
  (fun i hi y hy=>by
   simp only [Z7_L1,Z7_J6]
   rw [if_pos (by simp; omega),w64k (by unfold big; omega)]
   obtain ⟨r2,e2,p2⟩:=growL (f:=fun s:List pair×Int=>Z7_L2 n l ((a:Int),ix ds (j:Int),(b:Int)) (i:Int) s.1 s.2) l.length b 8796093022208 (Post:=fun r=>r.length≤y.length+l.length*b) y
    (fun k hk z hz=>by
     simp only [Z7_L2,Z7_J5]
     rw [if_pos (by simp; omega),if_pos (by omega),w64k (by unfold big; omega)]
     obtain ⟨r3,e3,p3⟩:=growL (f:=fun s:List pair×Int=>Z7_L3 n l ((a:Int),ix ds (j:Int),(b:Int)) (i:Int) (k:Int) s.1 s.2) b 1 8796093022208 (Post:=fun r=>r.length≤z.length+b*1) z
      (fun q hq v hv=>by
       simp only [Z7_L3]
       rw [if_pos (by simp; omega),if_pos (by simp; omega),w64k (by unfold big; omega)]
       exact ⟨_,rfl,by simp⟩)
      (fun v hv=>by simp only [Z7_L3]; rw [if_neg (by simp)]; exact ⟨v,rfl,hv⟩) (by omega)
     rw [e3]
     exact ⟨_,rfl,by omega⟩)
    (fun v hv=>by simp only [Z7_L2]; rw [if_neg (by simp)]; exact ⟨v,rfl,hv⟩) hy
   rw [e2]
   exact ⟨_,rfl,p2⟩)
  (fun v hv=>by simp only [Z7_L1]; rw [if_neg (by simp)]; exact ⟨v,rfl,trivial⟩) (by simp; omega)
 rw [e]
 exact ⟨r,rfl⟩
theorem first_bad {xs:List Int}{p:Int→Prop}(hp:∀ x,Decidable (p x))(h:¬ ∀ x∈xs,p x):∃ m,m<xs.length∧¬ p (ix xs (m:Int))∧∀ k:Nat,k<m→p (ix xs (k:Int)):=by
 induction xs with
 | nil=>exact absurd (fun x hx=>by cases hx) h
 | cons x xs ih =>
  by_cases c:p x
  ·obtain ⟨m,h1,h2,h3⟩:=ih fun q=>h fun y hy=>by
    rcases List.mem_cons.1 hy with rfl | hy
    ·exact c
    ·exact q y hy
   refine ⟨m+1,by simpa using h1,by rw [ix_cons]; exact h2,?_⟩
   intro k hk
   cases k with
   | zero=>exact c
   | succ k=>rw [ix_cons]; exact h3 k (by omega)
  ·exact ⟨0,by simp,c,fun k hk=>by omega⟩
def Sh (o:Option (List Int×List pair×Bool))(c:Prop)[Decidable c](d:List Int):Prop:=∃ ds ps,o=some (ds,ps,decide c)∧(c→ds=d)
theorem gather_i {ds:List Int}(h:OKD ds){a:Int}{xs:List Int}(hb:xs.length<big):Sh (Z0d ds a xs) (GaOk ds a xs) (ds.set a.toNat (xs.length:Int)):=by
 have hn:=h.1
 unfold Z0d
 simp only [Zj,Option.bind_some]
 by_cases c:(0≤a∧a<(ds.length:Int))∧xs≠[]∧xs.length≤4096
 ·obtain ⟨g1,g2,g3⟩:=c
  obtain ⟨j,rfl⟩:=Int.eq_ofNat_of_zero_le g1.1
  have hj:j<ds.length:=by omega
  have g4:xs.length≠0:=fun e=>g2 (List.eq_nil_of_length_eq_zero e)
  rw [if_neg (by simp [g2]; omega)]
  by_cases g5:∀ x∈xs,0≤x∧x<ix ds (j:Int)
  ·obtain ⟨r,e1,e2⟩:=loopI (f:=fun s:List pair×Int=>Z0d_L1 ds (j:Int) xs s.1 s.2) (fun k s=>s.2=(k:Int)∧s.1.length=k) xs.length (Post:=fun r=>∃ l,r=.inr l∧l.length≤4096)
    (fun k s hk hI=>by
     obtain ⟨y,i⟩:=s
     obtain ⟨hi2,hr⟩:=hI
     simp only at hi2 hr
     subst hi2
     have:=g5 _ (ix_mem hk)
     simp only [Z0d_L1]
     rw [if_pos (by simp; omega),if_pos (by omega),if_pos (fun _=>g1),if_neg (by simp; omega),if_pos (by simp; omega),w64k (by unfold big; omega)]
     exact ⟨_,rfl,rfl,by simp [hr]⟩)
    (fun s hI=>by
     obtain ⟨y,i⟩:=s
     obtain ⟨hi2,hr⟩:=hI
     simp only at hi2 hr
     subst hi2
     simp only [Z0d_L1]
     rw [if_neg (by simp)]
     exact ⟨_,rfl,y,rfl,by omega⟩) (s:=([],0)) ⟨rfl,rfl⟩
   obtain ⟨l,rfl,hl⟩:=e2
   rw [e1]
   simp only [Option.bind_some,Z0d_J1]
   rw [with_i hn hj]
   simp only [Option.bind_some]
   rw [dims_i (by simp [big]; omega)]
   by_cases g6:OKD (ds.set j (xs.length:Int))
   ·have ok:GaOk ds (j:Int) xs:=⟨g1.1,g1.2,g2,g5,by simpa using g6⟩
    obtain ⟨ps,hps⟩:=along_i h hj (xs.length:Int) hl
    simp only [decide_eq_true g6,Option.bind_some,Bool.not_true,Bool.false_eq_true,if_false]
    rw [hps]
    exact ⟨_,ps,by rw [decide_eq_true ok]; rfl,fun _=>by simp⟩
   ·have no:¬ GaOk ds (j:Int) xs:=fun q=>g6 (by simpa using q.2.2.2.2)
    simp only [decide_eq_false g6,Option.bind_some,Bool.not_false,if_true]
    exact ⟨_,_,by rw [decide_eq_false no],fun q=>absurd q no⟩
  ·have no:¬ GaOk ds (j:Int) xs:=fun q=>g5 q.2.2.2.1
   obtain ⟨m,m1,m2,m3⟩:=first_bad (fun _=>inferInstance) g5
   obtain ⟨r,e1,e2⟩:=loopI (f:=fun s:List pair×Int=>Z0d_L1 ds (j:Int) xs s.1 s.2) (fun k s=>s.2=(k:Int)∧s.1.length=k) m (Post:=fun r=>r=.inl ([],[],false))
    (fun k s hk hI=>by
     obtain ⟨y,i⟩:=s
     obtain ⟨hi2,hr⟩:=hI
     simp only at hi2 hr
     subst hi2
     have:=m3 k hk
     simp only [Z0d_L1]
     rw [if_pos (by simp; omega),if_pos (by omega),if_pos (fun _=>g1),if_neg (by simp; omega),if_pos (by simp; omega),w64k (by unfold big; omega)]
     exact ⟨_,rfl,rfl,by simp [hr]⟩)
    (fun s hI=>by
     obtain ⟨y,i⟩:=s
     obtain ⟨hi2,hr⟩:=hI
     simp only at hi2 hr
     subst hi2
     simp only [Z0d_L1]
     rw [if_pos (by simp; omega),if_pos (by omega),if_pos (fun _=>g1),if_pos (by simp only [Bool.or_eq_true,decide_eq_true_eq]; omega)]
     exact ⟨_,rfl,rfl⟩) (s:=([],0)) ⟨rfl,rfl⟩
   rw [e1,e2]
   exact ⟨_,_,by rw [decide_eq_false no]; rfl,fun q=>absurd q no⟩
 ·have no:¬ GaOk ds a xs:=fun q=>c ⟨⟨q.1,q.2.1⟩,q.2.2.1,by
   have:=q.2.2.2.2.2.mem (d:=(xs.length:Int)) (by
    have:a.toNat<ds.length:=by have:=q.1; have:=q.2.1; omega
    exact List.mem_iff_getElem.2 ⟨a.toNat,by simpa using this,by simp⟩)
   omega⟩
  have b1:((!(decide (a≥0)&&decide (a<(ds.length:Int)))||(xs.length:Int)==0)||decide ((xs.length:Int)>4096))=true:=by
   by_cases q:0≤a∧a<(ds.length:Int)
   ·by_cases q2:xs=[]
    ·subst q2; simp
    ·have:¬ xs.length≤4096:=fun z=>c ⟨q,q2,z⟩
     have:(xs.length:Int)>4096:=by omega
     simp [this]
   ·have:(decide (a≥0)&&decide (a<(ds.length:Int)))=false:=by simp; omega
    rw [this]; rfl
  rw [if_pos b1]
  exact ⟨_,_,by rw [decide_eq_false no],fun q=>absurd q no⟩
theorem scatter_i {ds:List Int}(h:OKD ds){a n:Int}{xs:List Int}(hb:xs.length<big):Sh (Z0e ds a xs n) (ScOk ds a xs n) (ds.set a.toNat n):=by
 have hn:=h.1
 unfold Z0e
 simp only [Zj,Option.bind_some]
 by_cases g1:0≤a∧a<(ds.length:Int)
 ·obtain ⟨j,rfl⟩:=Int.eq_ofNat_of_zero_le g1.1
  have hj:j<ds.length:=by omega
  have hm:=h.2.mem (ix_mem hj)
  rw [if_pos (fun _=>g1)]
  by_cases c:(xs.length:Int)=ix ds (j:Int)∧1≤n
  ·obtain ⟨g2,g3⟩:=c
   rw [if_neg (by simp; omega)]
   by_cases g5:∀ x∈xs,0≤x∧x<n
   ·obtain ⟨r,e1,e2⟩:=loopI (f:=fun s:List pair×Int=>Z0e_L1 xs n s.1 s.2) (fun k s=>s.2=(k:Int)∧s.1.length=k) xs.length (Post:=fun r=>∃ l,r=.inr l∧l.length≤4096)
     (fun k s hk hI=>by
      obtain ⟨y,i⟩:=s
      obtain ⟨hi2,hr⟩:=hI
      simp only at hi2 hr
      subst hi2
      have:=g5 _ (ix_mem hk)
      simp only [Z0e_L1]
      rw [if_pos (by simp; omega),if_pos (by omega),if_neg (by simp; omega),if_pos (by simp; omega),w64k (by unfold big; omega)]
      exact ⟨_,rfl,rfl,by simp [hr]⟩)
     (fun s hI=>by
      obtain ⟨y,i⟩:=s
      obtain ⟨hi2,hr⟩:=hI
      simp only at hi2 hr
      subst hi2
      simp only [Z0e_L1]
      rw [if_neg (by simp)]
      exact ⟨_,rfl,y,rfl,by omega⟩) (s:=([],0)) ⟨rfl,rfl⟩
    obtain ⟨l,rfl,hl⟩:=e2
    rw [e1]
    simp only [Option.bind_some,Z0e_J1]
    rw [with_i hn hj]
    simp only [Option.bind_some]
    rw [dims_i (by simp [big]; omega)]
    by_cases g6:OKD (ds.set j n)
    ·have ok:ScOk ds (j:Int) xs n:=⟨g1.1,g1.2,g2,g5,by simpa using g6⟩
     obtain ⟨ps,hps⟩:=along_i h hj n hl
     simp only [decide_eq_true g6,Option.bind_some,Bool.not_true,Bool.false_eq_true,if_false]
     rw [hps]
     exact ⟨_,ps,by rw [decide_eq_true ok]; rfl,fun _=>by simp⟩
    ·have no:¬ ScOk ds (j:Int) xs n:=fun q=>g6 (by simpa using q.2.2.2.2)
     simp only [decide_eq_false g6,Option.bind_some,Bool.not_false,if_true]
     exact ⟨_,_,by rw [decide_eq_false no],fun q=>absurd q no⟩
   ·have no:¬ ScOk ds (j:Int) xs n:=fun q=>g5 q.2.2.2.1
    obtain ⟨m,m1,m2,m3⟩:=first_bad (fun _=>inferInstance) g5
    obtain ⟨r,e1,e2⟩:=loopI (f:=fun s:List pair×Int=>Z0e_L1 xs n s.1 s.2) (fun k s=>s.2=(k:Int)∧s.1.length=k) m (Post:=fun r=>r=.inl ([],[],false))
     (fun k s hk hI=>by
      obtain ⟨y,i⟩:=s
      obtain ⟨hi2,hr⟩:=hI
      simp only at hi2 hr
      subst hi2
      have:=m3 k hk
      simp only [Z0e_L1]
      rw [if_pos (by simp; omega),if_pos (by omega),if_neg (by simp; omega),if_pos (by simp; omega),w64k (by unfold big; omega)]
      exact ⟨_,rfl,rfl,by simp [hr]⟩)
     (fun s hI=>by
      obtain ⟨y,i⟩:=s
      obtain ⟨hi2,hr⟩:=hI
      simp only at hi2 hr
      subst hi2
      simp only [Z0e_L1]
      rw [if_pos (by simp; omega),if_pos (by omega),if_pos (by simp only [Bool.or_eq_true,decide_eq_true_eq]; omega)]
      exact ⟨_,rfl,rfl⟩) (s:=([],0)) ⟨rfl,rfl⟩
    rw [e1,e2]
    exact ⟨_,_,by rw [decide_eq_false no]; rfl,fun q=>absurd q no⟩
  ·have no:¬ ScOk ds (j:Int) xs n:=fun q=>c ⟨q.2.2.1,by
    have:=q.2.2.2.2.2.1 n (List.mem_iff_getElem.2 ⟨j,by simpa using hj,by simp⟩)
    exact this⟩
   rw [if_pos (by
    by_cases q:(xs.length:Int)=ix ds (j:Int)
    ·have:n<1:=by
      rcases Int.lt_or_le n 1 with z | z
      ·exact z
      ·exact absurd ⟨q,z⟩ c
     simp [this]
    ·simp [q])]
   exact ⟨_,_,by rw [decide_eq_false no],fun q=>absurd q no⟩
 ·have no:¬ ScOk ds a xs n:=fun q=>g1 ⟨q.1,q.2.1⟩
  have b0:(decide (a≥0)&&decide (a<(ds.length:Int)))=false:=by simp; omega
  rw [b0,if_pos (fun q=>by cases q),if_pos (by simp)]
  exact ⟨_,_,by rw [decide_eq_false no],fun q=>absurd q no⟩
theorem pad_i {ds:List Int}(h:OKD ds){a b f g:Int}:Sh (Zx ds a b f g) (PaOk ds a b f g) (ds.set a.toNat (padN ds a b f g)):=by
 have hn:=h.1
 unfold Zx
 simp only [Zj,Option.bind_some]
 by_cases g1:0≤a∧a<(ds.length:Int)
 ·obtain ⟨j,rfl⟩:=Int.eq_ofNat_of_zero_le g1.1
  have hj:j<ds.length:=by omega
  have hm:=h.2.mem (ix_mem hj)
  rw [if_neg (by simp; omega)]
  have lp:=loop_all [b,f,g] (fun s:Int=>Zx_L1 b f g s) (fun i=>i) (fun x=>!(decide (x<0)||decide (x>4096))) (.inl (([]:List Int),([]:List pair),false)) (.inr ())
   (fun k hk=>by
    simp only [List.length_cons,List.length_nil] at hk
    simp only [Zx_L1]
    rw [if_pos (by simp; omega),if_pos (by simp; omega),w64k (by unfold big; omega)]
    cases (decide (ix [b,f,g] (k:Int)<0)||decide (ix [b,f,g] (k:Int)>4096))<;>rfl)
   (by simp only [Zx_L1]; rw [if_neg (by simp)])
  rw [lp]
  by_cases c:0≤b∧b≤4096∧0≤f∧f≤4096∧0≤g∧g≤4096
  ·obtain ⟨c1,c2,c3,c4,c5,c6⟩:=c
   have e0:([b,f,g].all fun x=>!(decide (x<0)||decide (x>4096)))=true:=by
    rw [List.all_eq_true]
    intro x hx
    have:x=b∨x=f∨x=g:=by simpa using hx
    simp; rcases this with rfl | rfl | rfl<;>omega
   rw [e0]
   simp only [if_true,Option.bind_some,Zx_J1]
   have k0:0≤(ix ds (j:Int) - 1)*g:=Int.mul_nonneg (by omega) c5
   have k1:=Int.mul_le_mul (show ix ds (j:Int) - 1≤4096 by omega) c6 c5 (show (0:Int)≤4096 by omega)
   have e:w64 (w64 (w64 (b+ix ds (j:Int))+w64 (w64 (ix ds (j:Int) - 1)*g))+f)=padN ds (j:Int) b f g:=by
    rw [w64_id (n:=b+ix ds (j:Int)) (by omega) (by omega),w64_id (n:=ix ds (j:Int) - 1) (by omega) (by omega),w64_id (n:=(ix ds (j:Int) - 1)*g) (by omega) (by omega),w64_id (n:=b+ix ds (j:Int)+(ix ds (j:Int) - 1)*g) (by omega) (by omega),w64_id (by omega) (by omega)]
    rfl
   rw [if_pos g1,e,with_i hn hj]
   simp only [Option.bind_some]
   rw [dims_i (by simp [big]; omega)]
   by_cases g6:OKD (ds.set j (padN ds (j:Int) b f g))
   ·have ok:PaOk ds (j:Int) b f g:=⟨g1.1,g1.2,c1,c2,c3,c4,c5,c6,by simpa using g6⟩
    simp only [decide_eq_true g6,Option.bind_some,Bool.not_true,Bool.false_eq_true,if_false]
    obtain ⟨l,e1,hl⟩:=growL (f:=fun s:List pair×Int=>Zx_L2 ds (j:Int) b g s.1 s.2) (ix ds (j:Int)).toNat 1 8796093022208 (Post:=fun r=>r.length≤4096) []
     (fun q hq v hv=>by
      simp only [Zx_L2]
      rw [if_pos (by simp; omega),if_pos (by simp; omega),w64k (by unfold big; omega)]
      exact ⟨_,rfl,by simp⟩)
     (fun v hv=>by
      simp only [Zx_L2]
      simp at hv
      rw [if_neg (by simp; omega)]
      exact ⟨v,rfl,by omega⟩) (by simp; omega)
    rw [e1]
    simp only [Option.bind_some,Zx_J2]
    obtain ⟨ps,hps⟩:=along_i h hj (padN ds (j:Int) b f g) hl
    rw [e,hps]
    exact ⟨_,ps,by rw [decide_eq_true ok]; rfl,fun _=>by simp⟩
   ·have no:¬ PaOk ds (j:Int) b f g:=fun q=>g6 (by simpa using q.2.2.2.2.2.2.2.2)
    simp only [decide_eq_false g6,Option.bind_some,Bool.not_false,if_true]
    exact ⟨_,_,by rw [decide_eq_false no],fun q=>absurd q no⟩
  ·have no:¬ PaOk ds (j:Int) b f g:=fun q=>c ⟨q.2.2.1,q.2.2.2.1,q.2.2.2.2.1,q.2.2.2.2.2.1,q.2.2.2.2.2.2.1,q.2.2.2.2.2.2.2.1⟩
   have e0:([b,f,g].all fun x=>!(decide (x<0)||decide (x>4096)))=false:=by
    simp only [List.all_cons,List.all_nil,Bool.and_true,Bool.and_eq_false_iff,Bool.not_eq_false',Bool.or_eq_true,decide_eq_true_eq]
    omega
   rw [e0]
   exact ⟨_,_,by rw [decide_eq_false no]; rfl,fun q=>absurd q no⟩
 ·have no:¬ PaOk ds a b f g:=fun q=>g1 ⟨q.1,q.2.1⟩
  have b0:(decide (a≥0)&&decide (a<(ds.length:Int)))=false:=by simp; omega
  rw [b0,if_pos (by simp)]
  exact ⟨_,_,by rw [decide_eq_false no],fun q=>absurd q no⟩
theorem fold_i {ds:List Int}(h:OKD ds){a st n:Int}:Sh (Z4 ds a st n) (FoOk ds a st n) ((ds.set a.toNat n).take (ds.length - 1)):=by
 have hn:=h.1
 have w1:w64 ((ds.length:Int) - 1)=(ds.length:Int) - 1:=w64_id (by omega) (by omega)
 unfold Z4
 simp only [Zj,Option.bind_some,w1]
 by_cases c:(0≤a∧a<(ds.length:Int))∧a≠(ds.length:Int) - 1∧1≤st∧1≤n∧n≤4096
 ·obtain ⟨g1,c1,c2,c3,c4⟩:=c
  obtain ⟨j,rfl⟩:=Int.eq_ofNat_of_zero_le g1.1
  have hj:j<ds.length:=by omega
  obtain ⟨l,hle⟩:∃ l,l=ds.length - 1:=⟨_,rfl⟩
  have hlc:(ds.length:Int) - 1=(l:Int):=by omega
  have w2:w64 (l:Int)=(l:Int):=w64_id (by omega) (by omega)
  have hm:=h.2.mem (ix_mem hj)
  have hml:=h.2.mem (ix_mem (xs:=ds) (k:=l) (by omega))
  have b0:(decide ((j:Int)≥0)&&decide ((j:Int)<(ds.length:Int)))=true:=by simp; omega
  rw [hlc] at c1 ⊢
  have b1:((((!(decide ((j:Int)≥0)&&decide ((j:Int)<(ds.length:Int)))||((j:Int)==(l:Int)))||decide (st<1))||decide (n<1))||decide (n>4096))=false:=by rw [b0]; simp; omega
  have hF:FoOk ds (j:Int) st n↔0≤(j:Int)∧(j:Int)<(ds.length:Int)∧(j:Int)≠(l:Int)∧1≤st∧1≤n∧n≤4096∧ix ds (l:Int)≤n∧(n - ix ds (l:Int)) / st+1=ix ds (j:Int)∧OKD ((ds.set j n).take l):=by
   unfold FoOk
   rw [hlc,← hle,Int.toNat_natCast]
  rw [b1]
  rw [if_pos (fun _=>by omega),if_pos (fun _=>g1),if_pos (fun _=>by omega),if_pos (fun _=>by omega)]
  by_cases c5:ix ds (l:Int)≤n
  ·have q0:0≤(n - ix ds (l:Int)) / st:=Int.ediv_nonneg (by omega) (by omega)
   have q1:(n - ix ds (l:Int)) / st≤n - ix ds (l:Int):=Int.ediv_le_self _ (by omega)
   have e:w64 (w64 ((w64 (n - ix ds (l:Int))).tdiv st)+1)=(n - ix ds (l:Int)) / st+1:=by
    rw [w64_id (n:=n - ix ds (l:Int)) (by omega) (by omega),Int.tdiv_eq_ediv_of_nonneg (by omega),w64_id (n:=(n - ix ds (l:Int)) / st) (by omega) (by omega),w64_id (by omega) (by omega)]
   rw [e]
   by_cases c6:(n - ix ds (l:Int)) / st+1=ix ds (j:Int)
   ·rw [if_neg (by simp [c6]; omega),with_i hn hj]
    simp only [Option.bind_some,Int.toNat_natCast]
    rw [if_pos (by simp; omega),sub0,dims_i (by simp [big]; omega)]
    by_cases g5:OKD ((ds.set j n).take l)
    ·simp only [decide_eq_true g5,Option.bind_some,Bool.not_true,Bool.false_eq_true,if_false]
     have ok:FoOk ds (j:Int) st n:=hF.2 ⟨g1.1,g1.2,c1,c2,c3,c4,c5,c6,g5⟩
     rw [if_pos g1]
     have j1:∀ s:Int,∃ ps,Z4_J1 ds (j:Int) n (ds.set j n) s=some ((ds.set j n).take l,ps,true):=by
      intro s
      have hdl:OKD (ds.take l):=⟨by simp; omega,h.2.take l⟩
      simp only [Z4_J1,hlc,w2]
      rw [if_pos (by omega),sub0,lines_i hdl (by simp; omega)]
      simp only [Option.bind_some]
      obtain ⟨A,hA⟩:∃ A:Nat,(A:Int)=pr ((ds.take l).take j):=⟨(pr ((ds.take l).take j)).toNat,by have:=(hdl.2.take j).pos; omega⟩
      obtain ⟨L,hL⟩:∃ L:Nat,(L:Int)=ix (ds.take l) (j:Int):=⟨(ix (ds.take l) (j:Int)).toNat,by have:=hdl.2.mem (ix_mem (xs:=ds.take l) (k:=j) (by simp; omega)); omega⟩
      obtain ⟨B,hB⟩:∃ B:Nat,(B:Int)=pr ((ds.take l).drop (j+1)):=⟨(pr ((ds.take l).drop (j+1))).toNat,by have:=(hdl.2.drop (j+1)).pos; omega⟩
      obtain ⟨Z,hZ⟩:∃ Z:Nat,(Z:Int)=ix ds (l:Int):=⟨(ix ds (l:Int)).toNat,by omega⟩
      have a1:=(hdl.2.take j).2
      have b1:=(hdl.2.drop (j+1)).2
      have l1:=hdl.2.mem (ix_mem (xs:=ds.take l) (k:=j) (by simp; omega))
      rw [← hA] at a1 ⊢
      rw [← hB] at b1 ⊢
      rw [← hL] at l1 ⊢
      have m1:B*(Z*1)≤4096*4096:=Nat.mul_le_mul (by omega) (by omega)
      have m2:L*(B*(Z*1))≤4096*(4096*4096):=Nat.mul_le_mul (by omega) m1
      have m3:A*(L*(B*(Z*1)))≤64*(4096*(4096*4096))∨True:=.inr trivial
      -- the product of all four is the size of the whole
      have hd1:pr (ds.take l)=pr ((ds.take l).take j)*(ix (ds.take l) (j:Int)*pr ((ds.take l).drop (j+1))):=by
       rw [pr_take_drop (ds.take l) j]
       have:(ds.take l).drop j=ix (ds.take l) (j:Int)::(ds.take l).drop (j+1):=by rw [List.drop_eq_getElem_cons (by simp; omega),ix_at (by simp; omega)]
       rw [this]; rfl
      rw [← hA,← hL,← hB] at hd1
      have h4:A*(L*B)≤4096:=by
       have:=hdl.2.2
       rw [hd1] at this
       have e4:((A*(L*B):Nat):Int)=(A:Int)*((L:Int)*(B:Int)):=by simp
       omega
      have m4:A*(L*(B*(Z*1)))≤4096*4096:=by
       have e5:A*(L*(B*(Z*1)))=A*(L*B)*Z:=by rw [Nat.mul_one,Nat.mul_assoc,Nat.mul_assoc]
       rw [e5]
       exact Nat.mul_le_mul h4 (by omega)
      obtain ⟨r,e1,_⟩:=growL (f:=fun q:List pair×Int=>Z4_L1 ds n s ((A:Int),(L:Int),(B:Int)) q.1 q.2) A (L*(B*(Z*1))) 8796093022208 (Post:=fun _=>True) []
       (fun i hi y hy=>by
        simp only [Z4_L1,Z4_J15]
        rw [if_pos (by simp; omega),w64k (by unfold big; omega)]
        obtain ⟨r2,e2,p2⟩:=growL (f:=fun q:List pair×Int=>Z4_L2 ds n s ((A:Int),(L:Int),(B:Int)) (i:Int) q.1 q.2) L (B*(Z*1)) 8796093022208 (Post:=fun r=>r.length≤y.length+L*(B*(Z*1))) y
         (fun k hk z hz=>by
          simp only [Z4_L2,Z4_J14]
          rw [if_pos (by simp; omega),w64k (by unfold big; omega)]
          obtain ⟨r3,e3,p3⟩:=growL (f:=fun q:List pair×Int=>Z4_L3 ds n s ((A:Int),(L:Int),(B:Int)) (i:Int) (k:Int) q.1 q.2) B (Z*1) 8796093022208 (Post:=fun r=>r.length≤z.length+B*(Z*1)) z
           (fun p hp u hu=>by
            simp only [Z4_L3,Z4_J13]
            rw [if_pos (by simp; omega),w64k (by unfold big; omega)]
            obtain ⟨r4,e4,p4⟩:=growL (f:=fun q:List pair×Int=>Z4_L4 ds n s ((A:Int),(L:Int),(B:Int)) (i:Int) (k:Int) (p:Int) q.1 q.2) Z 1 8796093022208 (Post:=fun r=>r.length≤u.length+Z*1) u
             (fun o ho v hv=>by
              simp only [Z4_L4,hlc,w2]
              rw [if_pos (by omega),if_pos (by simp; omega),if_pos (by simp; omega),w64k (by unfold big; omega)]
              exact ⟨_,rfl,by simp⟩)
             (fun v hv=>by
              simp only [Z4_L4,hlc,w2]
              rw [if_pos (by omega),if_neg (by simp; omega)]
              exact ⟨v,rfl,hv⟩) (by omega)
            rw [e4]
            exact ⟨_,rfl,p4⟩)
           (fun v hv=>by simp only [Z4_L3]; rw [if_neg (by simp)]; exact ⟨v,rfl,hv⟩) hz
          rw [e3]
          exact ⟨_,rfl,p3⟩)
         (fun v hv=>by simp only [Z4_L2]; rw [if_neg (by simp)]; exact ⟨v,rfl,hv⟩) hy
        rw [e2]
        exact ⟨_,rfl,p2⟩)
       (fun v hv=>by simp only [Z4_L1]; rw [if_neg (by simp)]; exact ⟨v,rfl,trivial⟩) (by simp only [List.length_nil]; omega)
      rw [e1]
      simp only [Option.bind_some,Z4_J16,hlc,w2]
      rw [sub0]
      exact ⟨r,rfl⟩
     by_cases g7:ix ds (j:Int)=1
     ·rw [if_pos (by simp [g7])]
      obtain ⟨ps,hps⟩:=j1 0
      rw [hps]
      exact ⟨_,ps,by rw [decide_eq_true ok],fun _=>by rw [← hle]⟩
     ·rw [if_neg (by simp [g7])]
      obtain ⟨ps,hps⟩:=j1 st
      rw [hps]
      exact ⟨_,ps,by rw [decide_eq_true ok],fun _=>by rw [← hle]⟩
    ·simp only [decide_eq_false g5,Option.bind_some,Bool.not_false,if_true]
     exact ⟨_,_,by rw [decide_eq_false (fun q=>g5 (hF.1 q).2.2.2.2.2.2.2.2)],fun q=>absurd (hF.1 q).2.2.2.2.2.2.2.2 g5⟩
   ·rw [if_pos (by simp only [Bool.or_eq_true,bne_iff_ne]; exact .inr fun z=>c6 z.symm)]
    exact ⟨_,_,by rw [decide_eq_false (fun q=>c6 (hF.1 q).2.2.2.2.2.2.2.1)],fun q=>absurd (hF.1 q).2.2.2.2.2.2.2.1 c6⟩
  ·rw [if_pos (by simp only [Bool.or_eq_true,Bool.false_or,decide_eq_true_eq]; exact .inl (by omega))]
   exact ⟨_,_,by rw [decide_eq_false (fun q=>c5 (hF.1 q).2.2.2.2.2.2.1)],fun q=>absurd (hF.1 q).2.2.2.2.2.2.1 c5⟩
 ·have no:¬ FoOk ds a st n:=fun q=>c ⟨⟨q.1,q.2.1⟩,q.2.2.1,q.2.2.2.1,q.2.2.2.2.1,q.2.2.2.2.2.1⟩
  have b1:((((!(decide (a≥0)&&decide (a<(ds.length:Int)))||(a==(ds.length:Int) - 1))||decide (st<1))||decide (n<1))||decide (n>4096))=true:=by
   simp only [Bool.or_eq_true,Bool.not_eq_true',decide_eq_true_eq,Bool.and_eq_false_iff,decide_eq_false_iff_not,beq_iff_eq]
   omega
  rw [b1,if_pos (fun q=>by simp at q),if_pos (fun q=>by simp at q),if_pos (fun q=>by simp at q),if_pos (fun q=>by simp at q),if_pos (by simp)]
  exact ⟨_,_,by rw [decide_eq_false no],fun q=>absurd q no⟩
theorem plain_i (n:Node)(u:Str)(bd bi bf bx:Bool)(h1:Z6 str1 u=some bd)(h2:Z6 str2 u=some bi)(h3:Z6 str4 u=some bf)(h4:Z6 str5 u=some bx) :
  Z1s n u=some ((((bd||((n.Dims.length:Int)==(0:Int)))&&(bi||((n.Ints.length:Int)==(0:Int))))&&(bf||(n.Form==([]:Str))))&&(bx||((n.Data.length:Int)==(0:Int)))):=by
 unfold Z1s
 rw [h1,h2,h3,h4]
 simp only [Option.bind_some]
 generalize ((n.Dims.length:Int)==(0:Int))=x1
 generalize ((n.Ints.length:Int)==(0:Int))=x2
 generalize (n.Form==([]:Str))=x3
 generalize ((n.Data.length:Int)==(0:Int))=x4
 cases bd<;>cases x1<;>cases bi<;>cases x2<;>cases bf<;>cases x3<;>cases bx<;>cases x4<;>rfl
theorem has_d0:Z6 str1 []=some false:=by kernel_rfl
theorem has_i0:Z6 str2 []=some false:=by kernel_rfl
theorem has_f0:Z6 str4 []=some false:=by kernel_rfl
theorem has_x0:Z6 str5 []=some false:=by kernel_rfl
theorem has_dd:Z6 str1 str1=some true:=by kernel_rfl
theorem has_id:Z6 str2 str1=some false:=by kernel_rfl
theorem has_fd:Z6 str4 str1=some false:=by kernel_rfl
theorem has_xd:Z6 str5 str1=some false:=by kernel_rfl
theorem has_di:Z6 str1 str2=some false:=by kernel_rfl
theorem has_ii:Z6 str2 str2=some true:=by kernel_rfl
theorem has_fi:Z6 str4 str2=some false:=by kernel_rfl
theorem has_xi:Z6 str5 str2=some false:=by kernel_rfl
theorem has_dx:Z6 str1 str3=some true:=by kernel_rfl
theorem has_ix:Z6 str2 str3=some false:=by kernel_rfl
theorem has_fx:Z6 str4 str3=some false:=by kernel_rfl
theorem has_xx:Z6 str5 str3=some true:=by kernel_rfl
theorem has_df:Z6 str1 str4=some false:=by kernel_rfl
theorem has_if:Z6 str2 str4=some false:=by kernel_rfl
theorem has_ff:Z6 str4 str4=some true:=by kernel_rfl
theorem has_xf:Z6 str5 str4=some false:=by kernel_rfl
def Win (n:Node)(m:Nat):Prop:=∀ a∈n.Args,0≤a∧a<(m:Int)
instance (n:Node)(m:Nat):Decidable (Win n m):=by unfold Win; infer_instance
theorem args_i {n:Node}{sh:List (List Int)}(hm:sh.length≤4096)(hb:n.Args.length≤6):loopM (fun s:List (List Int)×Int=>Zd_L1 n sh s.1 s.2) ([],0)=some (if Win n sh.length then .inr (n.Args.map fun a=>ix sh a) else .inl ([],false)):=by
 have step:∀ k:Nat,k<n.Args.length→(0≤ix n.Args (k:Int)∧ix n.Args (k:Int)<(sh.length:Int))→(fun s:List (List Int)×Int=>Zd_L1 n sh s.1 s.2) ((n.Args.take k).map fun a=>ix sh a,(k:Int))=some (.inl ((n.Args.take (k+1)).map fun a=>ix sh a,((k+1:Nat):Int))):=by
  intro k hk hw
  simp only [Zd_L1]
  rw [if_pos (by simp; omega),if_pos (by omega),if_neg (by simp; omega),if_pos hw,if_pos (by simp; omega),w64k (by unfold big; omega),List.take_succ_eq_append_getElem hk,List.map_append,ix_at hk]
  rfl
 by_cases c:Win n sh.length
 ·rw [if_pos c]
  refine loopN (fun k=>((n.Args.take k).map fun a=>ix sh a,(k:Int))) n.Args.length (fun k hk=>step k hk (c _ (ix_mem hk))) ?_ rfl
  simp only [Zd_L1]
  rw [if_neg (by simp),List.take_length]
 ·rw [if_neg c]
  obtain ⟨m,m1,m2,m3⟩:=first_bad (p:=fun a=>0≤a∧a<(sh.length:Int)) (fun _=>inferInstance) c
  refine loopN (fun k=>((n.Args.take k).map fun a=>ix sh a,(k:Int))) m (fun k hk=>step k (by omega) (m3 k hk)) ?_ rfl
  simp only [Zd_L1]
  rw [if_pos (by simp; omega),if_pos (by omega),if_pos (by simp only [Bool.or_eq_true,decide_eq_true_eq]; omega)]
theorem node_i {n:Node}{sh:List (List Int)}(hm:sh.length≤4096){kd:kindOfR}{u:Str}{pb:Bool}(hk:Zw n.Op=some kd)(ht:Nat.beq kd.t 0=false)(hu:kindOfR_uses kd=some u)(hp:Z1s n u=some pb) :
  Zd n sh=if pb=true∧n.Args.length≤6 then (if Win n sh.length then kindOfR_shape kd n (n.Args.map fun a=>ix sh a) else some ([],false)) else some ([],false):=by
 unfold Zd
 rw [hk]
 simp only [Option.bind_some,ht,gcall,Bool.not_false,cond_true,hu,hp,Bool.false_or]
 by_cases c:pb=true∧n.Args.length≤6
 ·obtain ⟨rfl,c2⟩:=c
  rw [if_neg (by simp; omega),if_pos ⟨rfl,c2⟩,args_i hm c2]
  by_cases w:Win n sh.length
  ·rw [if_pos w,if_pos w]
   simp only [Option.bind_some,Zd_J1]
   cases kindOfR_shape kd n (n.Args.map fun a=>ix sh a)<;>rfl
  ·rw [if_neg w,if_neg w]
   rfl
 ·rw [if_neg c,if_pos]
  cases pb
  ·rfl
  ·have:¬ n.Args.length≤6:=fun z=>c ⟨rfl,z⟩
   simp; omega
def FM (n:Node)(lo hi:Int)(ud:Bool)(ui uj:Int):Prop:=lo≤(n.Args.length:Int)∧(n.Args.length:Int)≤hi∧(ud=true∨n.Dims=[])∧(n.Op=11∨n.Form=[])∧(n.Op=2∨n.Data=[])∧ui≤(n.Ints.length:Int)∧(n.Ints.length:Int)≤uj
instance (n:Node)(lo hi:Int)(ud:Bool)(ui uj:Int):Decidable (FM n lo hi ud ui uj):=by unfold FM; infer_instance
theorem form_s {n:Node}{lo hi ui uj:Int}{ud:Bool}(h1:1≤n.Op)(h2:n.Op≤19)(ha:Z2w n.Op=some (lo,hi))(hd:Z35 n.Op=some ud)(hi_:Z18 n.Op=some ui)(hj:uj=if n.Op=16∨n.Op=17 then ui+4096 else ui)(hu:0≤ui∧ui≤100) :
  Z14 n=some (decide (FM n lo hi ud ui uj)):=by
 unfold Z14
 rw [if_neg (by simp; omega),ha]
 simp only [Option.bind_some]
 by_cases c1:lo≤(n.Args.length:Int)∧(n.Args.length:Int)≤hi
 ·rw [if_neg (by simp; omega),hd]
  simp only [Option.bind_some]
  by_cases c2:(ud=true∨n.Dims=[])∧(n.Op=11∨n.Form=[])∧(n.Op=2∨n.Data=[])
  ·obtain ⟨d1,d2,d3⟩:=c2
   have e1:((!ud)&&decide ((n.Dims.length:Int)>0))=false:=by
    rcases d1 with d | d<;>simp [d]
   have e2:((n.Op != 11)&&(!(n.Form==([]:Str))))=false:=by
    rcases d2 with d | d<;>simp [d]
   have e3:((n.Op != 2)&&decide ((n.Data.length:Int)>0))=false:=by
    rcases d3 with d | d<;>simp [d]
   rw [e1,e2,e3,if_neg (by simp),hi_]
   simp only [Option.bind_some]
   by_cases c3:n.Op=16∨n.Op=17
   ·rw [if_pos (by simpa using c3),w64_id (by omega) (by omega)]
    rw [if_pos c3] at hj
    congr 1
    rw [Bool.eq_iff_iff]
    simp only [Bool.and_eq_true,decide_eq_true_eq]
    unfold FM
    exact ⟨fun q=>⟨c1.1,c1.2,d1,d2,d3,q.1,by omega⟩,fun q=>⟨q.2.2.2.2.2.1,by have:=q.2.2.2.2.2.2; omega⟩⟩
   ·rw [if_neg (by simpa using c3)]
    rw [if_neg c3] at hj
    congr 1
    rw [Bool.eq_iff_iff]
    simp only [beq_iff_eq,decide_eq_true_eq]
    unfold FM
    exact ⟨fun q=>⟨c1.1,c1.2,d1,d2,d3,by omega,by omega⟩,fun q=>by have:=q.2.2.2.2.2.1; have:=q.2.2.2.2.2.2; omega⟩
  ·have no:¬ FM n lo hi ud ui uj:=fun q=>c2 ⟨q.2.2.1,q.2.2.2.1,q.2.2.2.2.1⟩
   rw [decide_eq_false no,if_pos]
   refine Classical.byContradiction fun z=>c2 ?_
   simp only [Bool.or_eq_true,Bool.and_eq_true,Bool.not_eq_true',decide_eq_true_eq,bne_iff_ne,beq_eq_false_iff_ne,not_or,not_and] at z
   refine ⟨?_,?_,?_⟩
   ·cases ud
    ·refine .inr (List.eq_nil_of_length_eq_zero ?_); have:=z.1.1 rfl; omega
    ·exact .inl rfl
   ·by_cases q:n.Op=11
    ·exact .inl q
    ·exact .inr (Classical.not_not.1 (z.1.2 q))
   ·by_cases q:n.Op=2
    ·exact .inl q
    ·refine .inr (List.eq_nil_of_length_eq_zero ?_); have:=z.2 q; omega
 ·have no:¬ FM n lo hi ud ui uj:=fun q=>c1 ⟨q.1,q.2.1⟩
  rw [decide_eq_false no,if_pos (by simp only [Bool.or_eq_true,decide_eq_true_eq]; omega)]
noncomputable def Do (n:Node)(out:List Tensor):Option Tensor:=if n.Op=1 then Z0o n.Dims 0 else Z1 n (n.Args.map fun a=>ix out a)
def Res (n:Node)(out:List Tensor)(o:Option (List Int×Bool)):Prop :=
 (∃ t,o=some (t.Dims,true)∧Z14 n=some true∧Win n out.length∧Do n out=some t∧TT t) ∨
 (∃ ds,o=some (ds,false)∧(Z14 n=some false∨Z14 n=some true∧(Win n out.length→Do n out=some ⟨[],[]⟩)))
structure Caps (n:Node)(out:List Tensor):Prop where
 a:n.Args.length<big
 d:n.Dims.length<big
 i:n.Ints.length<big
 x:n.Data.length<big
 f:n.Form.length≤1048576
 o:out.length≤200
 t:∀ t∈out,TT t
theorem shapes_ix {out:List Tensor}{a:Int}(h0:0≤a)(h1:a<(out.length:Int)):ix (out.map Tensor.Dims) a=(ix out a).Dims∧ix out a∈out:=by
 obtain ⟨k,rfl⟩:=Int.eq_ofNat_of_zero_le h0
 have hk:k<out.length:=by omega
 rw [ix_at (by simpa using hk),ix_at hk]
 exact ⟨by simp,List.getElem_mem hk⟩
theorem res_of {n:Node}{out:List Tensor}(hc:Caps n out){kd:kindOfR}{u:Str}{pb fb:Bool}(hk:Zw n.Op=some kd)(ht:Nat.beq kd.t 0=false)(hu:kindOfR_uses kd=some u)(hp:Z1s n u=some pb)(hf:Z14 n=some fb)
  (h1:fb=true→pb=true∧n.Args.length≤6)
  (h2:pb=true→Win n out.length→fb=false→∃ ds,kindOfR_shape kd n ((n.Args.map fun a=>ix out a).map Tensor.Dims)=some (ds,false))
  (h3:fb=true→Win n out.length→∃ t,(kindOfR_shape kd n ((n.Args.map fun a=>ix out a).map Tensor.Dims)=some (t.Dims,true)∧Do n out=some t∧TT t)∨∃ ds,kindOfR_shape kd n ((n.Args.map fun a=>ix out a).map Tensor.Dims)=some (ds,false)∧Do n out=some ⟨[],[]⟩) :
  Res n out (Zd n (out.map Tensor.Dims)):=by
 have ho:=hc.o
 rw [node_i (by simp; omega) hk ht hu hp]
 have em:Win n out.length→(n.Args.map fun a=>ix (out.map Tensor.Dims) a)=(n.Args.map fun a=>ix out a).map Tensor.Dims:=by
  intro w
  rw [List.map_map]
  exact List.map_congr_left fun a ha=>(shapes_ix (w a ha).1 (w a ha).2).1
 have hl:(out.map Tensor.Dims).length=out.length:=by simp
 rw [hl]
 cases fb with
 | true =>
  obtain ⟨p1,p2⟩:=h1 rfl
  rw [if_pos ⟨p1,p2⟩]
  by_cases w:Win n out.length
  ·rw [if_pos w,em w]
   obtain ⟨t,q⟩:=h3 rfl w
   rcases q with ⟨q1,q2,q3⟩|⟨ds,q1,q2⟩
   ·exact .inl ⟨t,q1,hf,w,q2,q3⟩
   ·exact .inr ⟨ds,q1,.inr ⟨hf,fun _=>q2⟩⟩
  ·rw [if_neg w]
   exact .inr ⟨[],rfl,.inr ⟨hf,fun z=>absurd z w⟩⟩
 | false =>
  by_cases c:pb=true∧n.Args.length≤6
  ·rw [if_pos c]
   by_cases w:Win n out.length
   ·rw [if_pos w,em w]
    obtain ⟨ds,q⟩:=h2 c.1 w rfl
    exact .inr ⟨ds,q,.inl hf⟩
   ·rw [if_neg w]
    exact .inr ⟨[],rfl,.inl hf⟩
  ·rw [if_neg c]
   exact .inr ⟨[],rfl,.inl hf⟩
theorem sh2 (b i j s n args):kindOfR_shape ⟨2,b,i,j,s⟩ n args=Z20 ⟨i⟩ n args:=rfl
theorem leaf_i {n:Node}{b:Bool}{args:List (List Int)}(hd:n.Dims.length<big)(hx:n.Data.length<big):Z1h ⟨b⟩ n args=some (if args=[]∧OKD n.Dims∧(b=true→TOk n.Dims n.Data) then (n.Dims,true) else ([],false)):=by
 unfold Z1h
 by_cases c1:args=[]
 ·subst c1
  have e0:(((([]:List (List Int)).length:Int)) != 0)=false:=rfl
  simp only [e0,gcall,Bool.not_false,cond_true,Bool.false_or]
  rw [dims_i hd]
  simp only [Option.bind_some]
  by_cases c2:OKD n.Dims
  ·simp only [decide_eq_true c2,Bool.not_true,Bool.not_false,Bool.true_and,Bool.false_or]
   cases b with
   | false=>simp [c2]
   | true =>
    rw [cond_true,tens_i (t:=⟨n.Dims,n.Data⟩) hd hx]
    by_cases c3:TOk n.Dims n.Data
    ·simp [c2,c3]
    ·simp [c2,c3]
  ·simp [decide_eq_false c2,c2]
 ·have e0:((args.length:Int) != 0)=true:=by
   have:args.length≠0:=fun e=>c1 (List.eq_nil_of_length_eq_zero e)
   simp; omega
  simp only [e0,gcall,Bool.not_true,Bool.not_false,cond_false,Bool.true_or,Option.bind_some,Bool.false_and]
  simp [c1]
theorem len_nil {α:Type}(xs:List α):((xs.length:Int)=0)↔xs=[]:=by
 exact ⟨fun h=>List.eq_nil_of_length_eq_zero (by omega),fun h=>by simp [h]⟩
theorem op_input {n:Node}{out:List Tensor}(hc:Caps n out)(hop:n.Op=1):Res n out (Zd n (out.map Tensor.Dims)):=by
 refine res_of hc (kd:=⟨1,false,0,0,[]⟩) (u:=str1) (fb:=decide (FM n 0 0 true 0 0)) (by rw [hop]; rfl) rfl rfl (plain_i n str1 true false false false has_dd has_id has_fd has_xd) (form_s (by omega) (by omega) (by rw [hop]; rfl) (by rw [hop]; rfl) (by rw [hop]; rfl) (by rw [hop]; rfl) ⟨by omega,by omega⟩) ?_ ?_ ?_
 ·intro hf
  obtain ⟨f1,f2,f3,f4,f5,f6,f7⟩:=of_decide_eq_true hf
  have g4:n.Form=[]:=f4.resolve_left (by omega)
  have g5:n.Data=[]:=f5.resolve_left (by omega)
  have g6:n.Ints=[]:=List.eq_nil_of_length_eq_zero (by omega)
  exact ⟨by rw [g4,g5,g6]; rfl,by omega⟩
 ·intro hp hw hf
  show ∃ ds,Z1h ⟨false⟩ n _=_
  rw [leaf_i hc.d hc.x]
  have:n.Args≠[]:=by
   intro e
   refine of_decide_eq_false hf ?_
   simp only [Bool.true_or,Bool.false_or,Bool.true_and,Bool.and_eq_true,len_nil,beq_iff_eq] at hp
   refine ⟨by rw [e]; decide,by rw [e]; decide,.inl rfl,.inr hp.1.2,.inr hp.2,by omega,by rw [hp.1.1]; decide⟩
  rw [if_neg (by simp [this])]
  exact ⟨_,rfl⟩
 ·intro hf hw
  obtain ⟨f1,f2,f3,f4,f5,f6,f7⟩:=of_decide_eq_true hf
  have ga:n.Args=[]:=List.eq_nil_of_length_eq_zero (by omega)
  obtain ⟨a1,a2⟩:=fill_s hc.d
  by_cases c:OKD n.Dims
  ·obtain ⟨d,d1,d2⟩:=a1 c
   refine ⟨⟨n.Dims,d⟩,.inl ⟨?_,by unfold Do; rw [if_pos hop]; exact d1,d2⟩⟩
   show Z1h ⟨false⟩ n _=_
   rw [leaf_i hc.d hc.x,if_pos ⟨by simp [ga],c,by simp⟩]
  ·refine ⟨⟨[],[]⟩,.inr ⟨[],?_,by unfold Do; rw [if_pos hop]; exact a2 c⟩⟩
   show Z1h ⟨false⟩ n _=_
   rw [leaf_i hc.d hc.x,if_neg (fun q=>c q.2.1)]
theorem op_const {n:Node}{out:List Tensor}(hc:Caps n out)(hop:n.Op=2):Res n out (Zd n (out.map Tensor.Dims)):=by
 refine res_of hc (kd:=⟨1,true,0,0,[]⟩) (u:=str3) (fb:=decide (FM n 0 0 true 0 0)) (by rw [hop]; rfl) rfl rfl (plain_i n str3 true false false true has_dx has_ix has_fx has_xx) (form_s (by omega) (by omega) (by rw [hop]; rfl) (by rw [hop]; rfl) (by rw [hop]; rfl) (by rw [hop]; rfl) ⟨by omega,by omega⟩) ?_ ?_ ?_
 ·intro hf
  obtain ⟨f1,f2,f3,f4,f5,f6,f7⟩:=of_decide_eq_true hf
  have g4:n.Form=[]:=f4.resolve_left (by omega)
  have g6:n.Ints=[]:=List.eq_nil_of_length_eq_zero (by omega)
  exact ⟨by rw [g4,g6]; rfl,by omega⟩
 ·intro hp hw hf
  show ∃ ds,Z1h ⟨true⟩ n _=_
  rw [leaf_i hc.d hc.x]
  have:n.Args≠[]:=by
   intro e
   refine of_decide_eq_false hf ?_
   simp only [Bool.true_or,Bool.false_or,Bool.true_and,Bool.and_true,Bool.and_eq_true,len_nil,beq_iff_eq] at hp
   refine ⟨by rw [e]; decide,by rw [e]; decide,.inl rfl,.inr hp.2,.inl hop,by omega,by rw [hp.1]; decide⟩
  rw [if_neg (by simp [this])]
  exact ⟨_,rfl⟩
 ·intro hf hw
  obtain ⟨f1,f2,f3,f4,f5,f6,f7⟩:=of_decide_eq_true hf
  have ga:n.Args=[]:=List.eq_nil_of_length_eq_zero (by omega)
  have hdo:Do n out=if TOk n.Dims n.Data then some ⟨n.Dims,n.Data⟩ else some ⟨[],[]⟩:=by
   unfold Do Z1
   rw [if_neg (by omega),if_pos (by simp [hop]),tens_s (t:=⟨n.Dims,n.Data⟩) hc.d hc.x]
   simp only [Option.bind_some]
   by_cases c:TOk n.Dims n.Data
   ·have h1:=c.l
    have h2:=c.d.1
    have h3:=c.d.2.2
    rw [decide_eq_true c,if_pos c,if_neg (by simp),ints_s (by omega),ints_s (by omega)]
    rfl
   ·rw [decide_eq_false c,if_neg c,if_pos (by simp)]
  by_cases c:TOk n.Dims n.Data
  ·rw [if_pos c] at hdo
   refine ⟨⟨n.Dims,n.Data⟩,.inl ⟨?_,hdo,c⟩⟩
   show Z1h ⟨true⟩ n _=_
   rw [leaf_i hc.d hc.x,if_pos ⟨by simp [ga],c.d,fun _=>c⟩]
  ·rw [if_neg c] at hdo
   refine ⟨⟨[],[]⟩,.inr ⟨[],?_,hdo⟩⟩
   show Z1h ⟨true⟩ n _=_
   rw [leaf_i hc.d hc.x,if_neg (fun q=>c (q.2.2 rfl))]
theorem pair_i {i:Int}{n:Node}{args:List (List Int)}(hb:∀ a∈args,a.length<big):Z20 ⟨i⟩ n args=some (if args.length=2∧ix args 0=ix args 1 then (ix args 0,true) else ([],false)):=by
 unfold Z20
 by_cases c:args.length=2
 ·have e:((args.length:Int) != 2)=false:=by simp [c]
  rw [e,if_pos (fun _=>by omega),if_pos (fun _=>by omega)]
  simp only [gcall,Bool.not_false,cond_true,Bool.false_or]
  have m0:ix args (0:Int)∈args:=ix_mem (k:=0) (by omega)
  rw [equal_i (hb _ m0)]
  simp only [Option.bind_some]
  by_cases q:ix args 0=ix args 1
  ·rw [decide_eq_true q,if_neg (by simp),if_pos (by omega),if_pos ⟨c,q⟩]
  ·rw [decide_eq_false q,if_pos (by simp),if_neg (fun z=>q z.2)]
 ·have e:((args.length:Int) != 2)=true:=by simp; omega
  rw [e,if_pos (fun z=>by cases z),if_pos (fun z=>by cases z)]
  simp only [gcall,Bool.not_true,cond_false,Option.bind_some,Bool.true_or,if_true]
  rw [if_neg (fun z=>c z.1)]
theorem two_args {n:Node}{out:List Tensor}(hc:Caps n out)(hw:Win n out.length):∀ t∈(n.Args.map fun a=>ix out a),TT t:=by
 intro t ht
 obtain ⟨a,ha,rfl⟩:=List.mem_map.1 ht
 exact hc.t _ (shapes_ix (hw a ha).1 (hw a ha).2).2
theorem op_pair {n:Node}{out:List Tensor}(hc:Caps n out)(h3:3≤n.Op)(h5:n.Op≤5):Res n out (Zd n (out.map Tensor.Dims)):=by
 have h35:n.Op=3∨n.Op=4∨n.Op=5:=by omega
 refine res_of hc (kd:=⟨2,false,n.Op - 2,0,[]⟩) (u:=[]) (fb:=decide (FM n 2 2 false 0 0)) (by rcases h35 with h | h | h<;>rw [h]<;>rfl) rfl rfl (plain_i n [] false false false false has_d0 has_i0 has_f0 has_x0) (form_s (by omega) (by omega) (by rcases h35 with h | h | h<;>rw [h]<;>rfl) (by rcases h35 with h | h | h<;>rw [h]<;>rfl) (by rcases h35 with h | h | h<;>rw [h]<;>rfl) (by rw [if_neg (by omega)]) ⟨by omega,by omega⟩) ?_ ?_ ?_
 ·intro hf
  obtain ⟨f1,f2,f3,f4,f5,f6,f7⟩:=of_decide_eq_true hf
  have g3:n.Dims=[]:=f3.resolve_left (by simp)
  have g4:n.Form=[]:=f4.resolve_left (by omega)
  have g5:n.Data=[]:=f5.resolve_left (by omega)
  have g6:n.Ints=[]:=List.eq_nil_of_length_eq_zero (by omega)
  exact ⟨by rw [g3,g4,g5,g6]; rfl,by omega⟩
 ·intro hp hw hf
  show ∃ ds,Z20 ⟨n.Op - 2⟩ n _=_
  have hT:=two_args hc hw
  rw [pair_i (fun a ha=>by
   obtain ⟨t,ht,rfl⟩:=List.mem_map.1 ha
   have:=tlen (hT t ht); unfold big; omega)]
  have:n.Args.length≠2:=by
   intro e
   refine of_decide_eq_false hf ?_
   simp only [Bool.false_or,Bool.and_eq_true,len_nil,beq_iff_eq] at hp
   refine ⟨by omega,by omega,.inr hp.1.1.1,.inr hp.1.2,.inr hp.2,by omega,by rw [hp.1.1.2]; decide⟩
  rw [if_neg (by simp [this])]
  exact ⟨_,rfl⟩
 ·intro hf hw
  obtain ⟨f1,f2,f3,f4,f5,f6,f7⟩:=of_decide_eq_true hf
  have hT:=two_args hc hw
  obtain ⟨A,hA⟩:∃ A,A=n.Args.map fun a=>ix out a:=⟨_,rfl⟩
  have hl:A.length=2:=by rw [hA]; simp; omega
  rw [← hA] at hT ⊢
  obtain ⟨t,u,rfl⟩:∃ t u,A=[t,u]:=by
   match A,hl with
   | [t,u],_=>exact ⟨t,u,rfl⟩
  have ht:TT t:=hT t (by simp)
  have hu:TT u:=hT u (by simp)
  have hk:kindOfR_shape ⟨2,false,n.Op - 2,0,[]⟩ n ([t,u].map Tensor.Dims)=some (if t.Dims=u.Dims then (t.Dims,true) else ([],false)):=by
   rw [sh2,pair_i (fun a ha=>by
    have:a=t.Dims∨a=u.Dims:=by simpa using ha
    have:=tlen ht; have:=tlen hu
    unfold big
    rcases ‹a=t.Dims∨a=u.Dims› with rfl | rfl<;>omega)]
   by_cases q:t.Dims=u.Dims
   ·rw [if_pos q,if_pos ⟨rfl,q⟩]; rfl
   ·rw [if_neg q,if_neg (fun z=>q z.2)]
  have hdo:Do n out=(Zz t.Dims u.Dims).bind fun r33=>if (!r33)=true then some ⟨[],[]⟩ else (Z10 (w64 (w64 (n.Op - 3)+1)) t u).bind fun r36=>some r36:=by
   unfold Do Z1
   rw [if_neg (by omega),← hA,if_neg (by simp; omega)]
   rcases h35 with h | h | h
   ·rw [if_pos (by simp [h])]; simp only [Z1_J1,h]; rfl
   ·rw [if_neg (by simp [h]),if_pos (by simp [h])]; simp only [Z1_J1,h]; rfl
   ·rw [if_neg (by simp [h]),if_neg (by simp [h])]; simp only [Z1_J1,h]; rfl
  rw [same_s (by have:=tlen ht; unfold big; omega)] at hdo
  simp only [Option.bind_some] at hdo
  by_cases q:t.Dims=u.Dims
  ·rw [decide_eq_true q,if_neg (by simp)] at hdo
   have hw64:w64 (w64 (n.Op - 3)+1)=n.Op - 2:=by rw [w64_id (n:=n.Op - 3) (by omega) (by omega),w64_id (by omega) (by omega)]; omega
   rw [hw64] at hdo
   obtain ⟨d,d1,d2⟩:=two_s (op:=n.Op - 2) ht hu q (by omega) (by omega)
   rw [d1] at hdo
   exact ⟨⟨t.Dims,d⟩,.inl ⟨by rw [hk,if_pos q],hdo,d2⟩⟩
  ·rw [decide_eq_false q,if_pos (by simp)] at hdo
   exact ⟨⟨[],[]⟩,.inr ⟨[],by rw [hk,if_neg q],hdo⟩⟩
theorem res_one {n:Node}{out:List Tensor}(hc:Caps n out){kd:kindOfR}{u:Str}{ud bi:Bool}{ui uj:Int}(hk:Zw n.Op=some kd)(ht:Nat.beq kd.t 0=false)(hu:kindOfR_uses kd=some u)
  (h1:Z6 str1 u=some ud) (h2:Z6 str2 u=some bi) (h3:Z6 str4 u=some false) (h4:Z6 str5 u=some false)
  (hf:Z14 n=some (decide (FM n 1 1 ud ui uj))) (hop:n.Op≠1∧n.Op≠2∧n.Op≠11) (hb:bi=false→ui=0∧uj=0)
  (sa:∀ args:List (List Int),args.length≠1→kindOfR_shape kd n args=some ([],false))
  (si:∀ t:Tensor,TT t→¬ (ui≤(n.Ints.length:Int)∧(n.Ints.length:Int)≤uj)→bi=true→∃ ds,kindOfR_shape kd n [t.Dims]=some (ds,false))
  (main:FM n 1 1 ud ui uj→∀ t:Tensor,TT t→(∃ t',kindOfR_shape kd n [t.Dims]=some (t'.Dims,true)∧Z1 n [t]=some t'∧TT t')∨∃ ds,kindOfR_shape kd n [t.Dims]=some (ds,false)∧Z1 n [t]=some ⟨[],[]⟩) :
  Res n out (Zd n (out.map Tensor.Dims)):=by
 refine res_of hc hk ht hu (plain_i n u ud bi false false h1 h2 h3 h4) hf ?_ ?_ ?_
 ·intro hf
  obtain ⟨f1,f2,f3,f4,f5,f6,f7⟩:=of_decide_eq_true hf
  have g4:n.Form=[]:=f4.resolve_left hop.2.2
  have g5:n.Data=[]:=f5.resolve_left hop.2.1
  refine ⟨?_,by omega⟩
  have g6:(bi||((n.Ints.length:Int)==0))=true:=by
   cases bi
   ·obtain ⟨rfl,rfl⟩:=hb rfl
    have:n.Ints=[]:=List.eq_nil_of_length_eq_zero (by omega)
    rw [this]; rfl
   ·rfl
  have g3:(ud||((n.Dims.length:Int)==0))=true:=by
   rcases f3 with q | q
   ·rw [q]; rfl
   ·rw [q]; simp
  rw [g3,g6,g4,g5]; rfl
 ·intro hp hw hf
  have hT:=two_args hc hw
  by_cases e:n.Args.length=1
  ·obtain ⟨A,hA⟩:∃ A,A=n.Args.map fun a=>ix out a:=⟨_,rfl⟩
   have hl:A.length=1:=by rw [hA]; simp [e]
   rw [← hA] at hT ⊢
   obtain ⟨t,rfl⟩:∃ t,A=[t]:=by
    match A,hl with
    | [t],_=>exact ⟨t,rfl⟩
   simp only [Bool.false_or,Bool.and_eq_true,Bool.or_eq_true,len_nil,beq_iff_eq] at hp
   have no:¬ (ui≤(n.Ints.length:Int)∧(n.Ints.length:Int)≤uj):=by
    intro z
    exact of_decide_eq_false hf ⟨by omega,by omega,hp.1.1.1,.inr hp.1.2,.inr hp.2,z.1,z.2⟩
   cases bi with
   | true=>exact si t (hT t (by simp)) no rfl
   | false =>
    obtain ⟨rfl,rfl⟩:=hb rfl
    have:n.Ints=[]:=by simpa using hp.1.1.2
    exact absurd ⟨by omega,by rw [this]; decide⟩ no
  ·exact ⟨_,sa _ (by simpa using e)⟩
 ·intro hf hw
  have hF:=of_decide_eq_true hf
  obtain ⟨f1,f2,f3,f4,f5,f6,f7⟩:=hF
  have hT:=two_args hc hw
  obtain ⟨A,hA⟩:∃ A,A=n.Args.map fun a=>ix out a:=⟨_,rfl⟩
  have hl:A.length=1:=by rw [hA]; simp; omega
  have hdo:Do n out=Z1 n A:=by unfold Do; rw [if_neg hop.1,hA]
  rw [hdo]
  rw [← hA] at hT ⊢
  obtain ⟨t,rfl⟩:∃ t,A=[t]:=by
   match A,hl with
   | [t],_=>exact ⟨t,rfl⟩
  rcases main (of_decide_eq_true hf) t (hT t (by simp)) with ⟨t',q⟩ | q
  ·exact ⟨t',.inl q⟩
  ·exact ⟨⟨[],[]⟩,.inr q⟩
theorem sh3 (b i j s n args):kindOfR_shape ⟨3,b,i,j,s⟩ n args=Z2r ⟨i⟩ n args:=rfl
theorem sh4 (b i j s n args):kindOfR_shape ⟨4,b,i,j,s⟩ n args=Z1t ⟨⟩ n args:=rfl
theorem sh6 (b i j s n args):kindOfR_shape ⟨6,b,i,j,s⟩ n args=Z1p ⟨s⟩ n args:=rfl
theorem sh7 (b i j s n args):kindOfR_shape ⟨7,b,i,j,s⟩ n args=Z21 ⟨s⟩ n args:=rfl
theorem sh8 (b i j s n args):kindOfR_shape ⟨8,b,i,j,s⟩ n args=Z1l ⟨s⟩ i j n args:=rfl
theorem sh9 (b i j s n args):kindOfR_shape ⟨9,b,i,j,s⟩ n args=Z1m ⟨s⟩ i j n args:=rfl
theorem sh10 (b i j s n args):kindOfR_shape ⟨10,b,i,j,s⟩ n args=Z1n ⟨s⟩ i j n args:=rfl
theorem sh11 (b i j s n args):kindOfR_shape ⟨11,b,i,j,s⟩ n args=Z1o ⟨s⟩ i j n args:=rfl
theorem do_one (n:Node)(t:Tensor)(h:6≤n.Op∧n.Op≤9):Z1 n [t]=(Z0z (w64 (w64 (n.Op - 6)+1)) t).bind fun r=>some r:=by
 have h69:n.Op=6∨n.Op=7∨n.Op=8∨n.Op=9:=by omega
 unfold Z1
 rcases h69 with h | h | h | h<;>simp only [Z1_J1,Z1_J2,h]<;>rfl
theorem op_solo {n:Node}{out:List Tensor}(hc:Caps n out)(h:6≤n.Op∧n.Op≤9):Res n out (Zd n (out.map Tensor.Dims)):=by
 have h69:n.Op=6∨n.Op=7∨n.Op=8∨n.Op=9:=by omega
 refine res_one hc (kd:=⟨3,false,n.Op - 5,0,[]⟩) (u:=[]) (ui:=0) (uj:=0) (by rcases h69 with h | h | h | h<;>rw [h]<;>rfl) rfl rfl has_d0 has_i0 has_f0 has_x0 (form_s (by omega) (by omega) (by rcases h69 with h | h | h | h<;>rw [h]<;>rfl) (by rcases h69 with h | h | h | h<;>rw [h]<;>rfl) (by rcases h69 with h | h | h | h<;>rw [h]<;>rfl) (by rw [if_neg (by omega)]) ⟨by omega,by omega⟩) ⟨by omega,by omega,by omega⟩ (fun _=>⟨rfl,rfl⟩) ?_ ?_ ?_
 ·intro args ha
  rw [sh3]; unfold Z2r
  rw [if_pos (by simp; omega)]
 ·intro _ _ _ hb; cases hb
 ·intro _ t ht
  have hw64:w64 (w64 (n.Op - 6)+1)=n.Op - 5:=by rw [w64_id (n:=n.Op - 6) (by omega) (by omega),w64_id (by omega) (by omega)]; omega
  obtain ⟨d,d1,d2⟩:=one_s (op:=n.Op - 5) ht (by omega) (by omega)
  exact .inl ⟨⟨t.Dims,d⟩,by rw [sh3]; rfl,by rw [do_one n t h,hw64,d1]; rfl,d2⟩
theorem op_top {n:Node}{out:List Tensor}(hc:Caps n out)(h:n.Op=10):Res n out (Zd n (out.map Tensor.Dims)):=by
 have top:∀ args:List (List Int),args.length≠1∨n.Ints.length≠1→Z1t ⟨⟩ n args=some ([],false):=by
  intro args ha
  unfold Z1t
  have e:(((args.length:Int) != 1)||((n.Ints.length:Int) != 1))=true:=by
   rcases ha with q | q
   ·have:((args.length:Int) != 1)=true:=by simp; omega
    rw [this]; rfl
   ·have:((n.Ints.length:Int) != 1)=true:=by simp; omega
    rw [this]; simp
  rw [e,if_pos (fun z=>by cases z),if_pos (fun z=>by cases z)]
  simp [gcall]
 refine res_one hc (kd:=⟨4,false,0,0,[]⟩) (u:=str2) (ui:=1) (uj:=1) (by rw [h]; rfl) rfl rfl has_di has_ii has_fi has_xi (form_s (by omega) (by omega) (by rw [h]; rfl) (by rw [h]; rfl) (by rw [h]; rfl) (by rw [if_neg (by omega)]) ⟨by omega,by omega⟩) ⟨by omega,by omega,by omega⟩ (fun hb=>by cases hb) ?_ ?_ ?_
 ·intro args ha
  rw [sh4]; exact top args (.inl ha)
 ·intro t _ hn _
  rw [sh4]; exact ⟨_,top _ (.inr (by omega))⟩
 ·intro hF t ht
  obtain ⟨f1,f2,f3,f4,f5,f6,f7⟩:=hF
  have hi:n.Ints.length=1:=by omega
  have hdo:Z1 n [t]=(Za t (ix n.Ints 0)).bind fun r=>some r:=by
   unfold Z1
   simp only [Z1_J1,Z1_J2,h]
   simp only [Int.reduceBEq,Bool.false_eq_true,if_false,if_true,beq_self_eq_true]
   rw [if_pos (by simp),if_pos (by omega)]
   rfl
  have hk:Z1t ⟨⟩ n [t.Dims]=some (if 0≤ix n.Ints 0∧ix n.Ints 0<(t.Dims.length:Int) then (t.Dims,true) else ([],false)):=by
   unfold Z1t
   have e:((([t.Dims].length:Int) != 1)||((n.Ints.length:Int) != 1))=false:=by simp [hi]
   rw [e,if_pos (fun _=>by simp),if_pos (fun _=>by omega)]
   simp only [gcall,Bool.not_false,cond_true,Zj,Option.bind_some,Bool.false_or]
   have e0:ix [t.Dims] (0:Int)=t.Dims:=rfl
   rw [e0]
   by_cases c:0≤ix n.Ints 0∧ix n.Ints 0<(t.Dims.length:Int)
   ·rw [if_pos c,if_neg (by simp; omega)]; simp
   ·rw [if_neg c,if_pos (by simp; omega)]
  rw [sh4,hk,hdo]
  obtain ⟨a1,a2⟩:=top_s (a:=ix n.Ints 0) ht
  by_cases c:0≤ix n.Ints 0∧ix n.Ints 0<(t.Dims.length:Int)
  ·obtain ⟨d,d1,d2⟩:=a1 c
   exact .inl ⟨⟨t.Dims,d⟩,by rw [if_pos c],by rw [d1]; rfl,d2⟩
  ·exact .inr ⟨[],by rw [if_neg c],by rw [a2 c]; rfl⟩
theorem byv_yes {n:Node}{s:Str}{ds:List Int}{v:View}(h:Z19 n ds=some v)(hv:VG v.Dims v.Strides v.Offset v.Base):Z1p ⟨s⟩ n [ds]=some (v.Dims,true):=by
 obtain ⟨ps,hps⟩:=pairs_i hv
 unfold Z1p
 rw [if_neg (by simp),if_pos (by simp)]
 have e0:ix [ds] (0:Int)=ds:=rfl
 unfold Z2p
 rw [e0,h]
 simp only [Option.bind_some,hps]
theorem byv_no {n:Node}{s:Str}{ds:List Int}(h:Z19 n ds=some noView):Z1p ⟨s⟩ n [ds]=some ([],false):=by
 unfold Z1p
 rw [if_neg (by simp),if_pos (by simp)]
 have e0:ix [ds] (0:Int)=ds:=rfl
 unfold Z2p
 rw [e0,h]
 simp only [Option.bind_some,Z2d]
 rw [show Zf noView=some false from view0_i]
 rfl
theorem byv_args {n:Node}{s:Str}{args:List (List Int)}(h:args.length≠1):Z1p ⟨s⟩ n args=some ([],false):=by
 unfold Z1p
 rw [if_pos (by simp; omega)]
theorem op_spread {n:Node}{out:List Tensor}(hc:Caps n out)(h:n.Op=12):Res n out (Zd n (out.map Tensor.Dims)):=by
 refine res_one hc (kd:=⟨6,false,0,0,str1⟩) (u:=str1) (ui:=0) (uj:=0) (by rw [h]; rfl) rfl rfl has_dd has_id has_fd has_xd (form_s (by omega) (by omega) (by rw [h]; rfl) (by rw [h]; rfl) (by rw [h]; rfl) (by rw [if_neg (by omega)]) ⟨by omega,by omega⟩) ⟨by omega,by omega,by omega⟩ (fun _=>⟨rfl,rfl⟩) ?_ ?_ ?_
 ·intro args ha; rw [sh6]; exact byv_args ha
 ·intro _ _ _ hb; cases hb
 ·intro _ t ht
  have hdo:Z1 n [t]=(Zv t.Dims).bind fun r78=>(Z02 r78 n.Dims).bind fun r82=>(Z00 t r82).bind fun r86=>some r86:=by
   unfold Z1
   simp only [Z1_J1,Z1_J2,h]
   simp only [Int.reduceBEq,Bool.false_eq_true,if_false,if_true,beq_self_eq_true]
   rw [if_pos (by simp)]
   rfl
  rw [whole_s ht.d] at hdo
  simp only [Option.bind_some] at hdo
  rw [spread_s ht.d hc.d] at hdo
  simp only [Option.bind_some] at hdo
  have hv:Z19 n t.Dims=(Z2b (whole t.Dims) n.Dims).bind fun r=>some r:=by
   unfold Z19
   rw [whole_i ht.d]
   simp only [Option.bind_some]
   rw [if_pos (by simp [h])]
  rw [spread_i ht.d hc.d] at hv
  simp only [Option.bind_some] at hv
  rw [sh6]
  by_cases c:OKD n.Dims∧t.Dims.length≤n.Dims.length∧spOk t.Dims (n.Dims.drop (n.Dims.length - t.Dims.length))=true
  ·rw [if_pos c] at hdo hv
   have vg:VG n.Dims (spL t.Dims n.Dims) 0 (pr t.Dims):=VG_spread ht.d c.1 c.2.1
   obtain ⟨d,d1,d2⟩:=look_s (v:=⟨n.Dims,spL t.Dims n.Dims,0,pr t.Dims⟩) ht vg rfl
   rw [d1] at hdo
   exact .inl ⟨⟨n.Dims,d⟩,byv_yes hv vg,hdo,d2⟩
  ·rw [if_neg c] at hdo hv
   rw [look0_s ht] at hdo
   exact .inr ⟨[],byv_no hv,hdo⟩
theorem op_reshape {n:Node}{out:List Tensor}(hc:Caps n out)(h:n.Op=13):Res n out (Zd n (out.map Tensor.Dims)):=by
 refine res_one hc (kd:=⟨7,false,0,0,str1⟩) (u:=str1) (ui:=0) (uj:=0) (by rw [h]; rfl) rfl rfl has_dd has_id has_fd has_xd (form_s (by omega) (by omega) (by rw [h]; rfl) (by rw [h]; rfl) (by rw [h]; rfl) (by rw [if_neg (by omega)]) ⟨by omega,by omega⟩) ⟨by omega,by omega,by omega⟩ (fun _=>⟨rfl,rfl⟩) ?_ ?_ ?_
 ·intro args ha
  rw [sh7]; unfold Z21
  rw [if_pos (by simp; omega)]
 ·intro _ _ _ hb; cases hb
 ·intro _ t ht
  have hdo:Z1 n [t]=(Zv t.Dims).bind fun r78=>(Z09 r78 n.Dims).bind fun r82=>(Z00 t r82).bind fun r86=>some r86:=by
   unfold Z1
   simp only [Z1_J1,Z1_J2,h]
   simp only [Int.reduceBEq,Bool.false_eq_true,if_false,if_true,beq_self_eq_true]
   rw [if_pos (by simp)]
   rfl
  rw [whole_s ht.d] at hdo
  simp only [Option.bind_some] at hdo
  rw [reshape_s ht.d hc.d] at hdo
  simp only [Option.bind_some] at hdo
  obtain ⟨ps,hps⟩:=reshapePairs_i (n:=n) ht.d hc.d
  have hk:Z21 ⟨str1⟩ n [t.Dims]=(Z0x n t.Dims).bind fun r=>some (r.1,r.2.2):=by
   unfold Z21
   rw [if_neg (by simp),if_pos (by simp)]
   rfl
  rw [sh7,hk,hps]
  by_cases c:OKD n.Dims∧pr n.Dims=pr t.Dims
  ·rw [if_pos c] at hdo ⊢
   obtain ⟨d,d1,d2⟩:=look_s (v:=whole n.Dims) ht (VG_wh c.1) c.2
   rw [d1] at hdo
   exact .inl ⟨⟨n.Dims,d⟩,rfl,hdo,d2⟩
  ·rw [if_neg c] at hdo ⊢
   rw [look0_s ht] at hdo
   exact .inr ⟨[],rfl,hdo⟩
theorem op_slice {n:Node}{out:List Tensor}(hc:Caps n out)(h:n.Op=14):Res n out (Zd n (out.map Tensor.Dims)):=by
 refine res_one hc (kd:=⟨6,false,0,0,str2⟩) (u:=str2) (ui:=4) (uj:=4) (by rw [h]; rfl) rfl rfl has_di has_ii has_fi has_xi (form_s (by omega) (by omega) (by rw [h]; rfl) (by rw [h]; rfl) (by rw [h]; rfl) (by rw [if_neg (by omega)]) ⟨by omega,by omega⟩) ⟨by omega,by omega,by omega⟩ (fun hb=>by cases hb) ?_ ?_ ?_
 ·intro args ha; rw [sh6]; exact byv_args ha
 ·intro t ht hn _
  rw [sh6]
  refine ⟨_,byv_no ?_⟩
  unfold Z19
  rw [whole_i ht.d]
  simp only [Option.bind_some,h]
  have e:((n.Ints.length:Int)==4)=false:=by simp; omega
  rw [if_neg (by simp),e]
  simp [noView]
 ·intro hF t ht
  obtain ⟨f1,f2,f3,f4,f5,f6,f7⟩:=hF
  have hi:n.Ints.length=4:=by omega
  have hdo:Z1 n [t]=if ix n.Ints 3<1 then some ⟨[],[]⟩ else (Zv t.Dims).bind fun r78=>(Z17 r78 (ix n.Ints 0) (ix n.Ints 1) (ix n.Ints 2) (ix n.Ints 3)).bind fun r82=>(Z00 t r82).bind fun r86=>some r86:=by
   unfold Z1
   simp only [Z1_J1,Z1_J2,h]
   simp only [Int.reduceBEq,Bool.false_eq_true,if_false,if_true,beq_self_eq_true]
   rw [if_pos (by omega)]
   by_cases c:ix n.Ints 3<1
   ·rw [if_pos (by simpa using c),if_pos c]
   ·rw [if_neg (by simpa using c),if_neg c,if_pos (by simp)]
    show (Zv t.Dims).bind _=_
    rw [whole_s ht.d]
    simp only [Option.bind_some]
    rw [if_pos (by omega),if_pos (by omega),if_pos (by omega)]
    rfl
  have hv:Z19 n t.Dims=if 1≤ix n.Ints 3 then (Z2a (whole t.Dims) (ix n.Ints 0) (ix n.Ints 1) (ix n.Ints 2) (ix n.Ints 3)).bind fun r=>some r else some noView:=by
   unfold Z19
   rw [whole_i ht.d]
   simp only [Option.bind_some,h,hi]
   rw [if_neg (by simp),if_pos (by simp)]
   by_cases c:1≤ix n.Ints 3
   ·rw [if_pos (by simp; omega),if_pos (by simp),if_pos (by simp),if_pos (by simp),if_pos (by simp),if_pos c]
   ·rw [if_neg (by simp; omega),if_neg (by simp),if_neg c]; rfl
  rw [sh6]
  by_cases c:1≤ix n.Ints 3
  ·rw [if_neg (by omega),whole_s ht.d] at hdo
   simp only [Option.bind_some] at hdo
   rw [slice_s ht.d c] at hdo
   rw [if_pos c,slice_i ht.d c] at hv
   simp only [Option.bind_some] at hdo hv
   by_cases q:SlOk t.Dims (ix n.Ints 0) (ix n.Ints 1) (ix n.Ints 2) (ix n.Ints 3)
   ·rw [if_pos q] at hdo hv
    have vg:=VG_cutV ht.d q
    obtain ⟨d,d1,d2⟩:=look_s ht vg rfl
    rw [d1] at hdo
    exact .inl ⟨⟨_,d⟩,byv_yes hv vg,hdo,d2⟩
   ·rw [if_neg q] at hdo hv
    rw [look0_s ht] at hdo
    exact .inr ⟨[],byv_no hv,hdo⟩
  ·rw [if_pos (by omega)] at hdo
   rw [if_neg c] at hv
   exact .inr ⟨[],byv_no hv,hdo⟩
theorem op_window {n:Node}{out:List Tensor}(hc:Caps n out)(h:n.Op=18):Res n out (Zd n (out.map Tensor.Dims)):=by
 refine res_one hc (kd:=⟨6,false,0,0,str2⟩) (u:=str2) (ui:=3) (uj:=3) (by rw [h]; rfl) rfl rfl has_di has_ii has_fi has_xi (form_s (by omega) (by omega) (by rw [h]; rfl) (by rw [h]; rfl) (by rw [h]; rfl) (by rw [if_neg (by omega)]) ⟨by omega,by omega⟩) ⟨by omega,by omega,by omega⟩ (fun hb=>by cases hb) ?_ ?_ ?_
 ·intro args ha; rw [sh6]; exact byv_args ha
 ·intro t ht hn _
  rw [sh6]
  refine ⟨_,byv_no ?_⟩
  unfold Z19
  rw [whole_i ht.d]
  simp only [Option.bind_some,h]
  have e:((n.Ints.length:Int)==3)=false:=by simp; omega
  rw [if_neg (by simp),e]
  simp [noView]
 ·intro hF t ht
  obtain ⟨f1,f2,f3,f4,f5,f6,f7⟩:=hF
  have hi:n.Ints.length=3:=by omega
  have hdo:Z1 n [t]=(Zv t.Dims).bind fun r78=>(Z0c r78 (ix n.Ints 0) (ix n.Ints 1) (ix n.Ints 2)).bind fun r82=>(Z00 t r82).bind fun r86=>some r86:=by
   unfold Z1
   simp only [Z1_J1,Z1_J2,h]
   simp only [Int.reduceBEq,Bool.false_eq_true,if_false,if_true,beq_self_eq_true]
   rw [if_pos (by simp)]
   show (Zv t.Dims).bind _=_
   rw [whole_s ht.d]
   simp only [Option.bind_some]
   rw [if_pos (by omega),if_pos (by omega),if_pos (by omega)]
   rfl
  have hv:Z19 n t.Dims=(Z2c (whole t.Dims) (ix n.Ints 0) (ix n.Ints 1) (ix n.Ints 2)).bind fun r=>some r:=by
   unfold Z19
   rw [whole_i ht.d]
   simp only [Option.bind_some,h,hi]
   rw [if_neg (by simp),if_pos (fun z=>by simp at z),if_neg (by simp),if_pos (by simp),if_pos (by simp),if_pos (by simp),if_pos (by simp)]
  rw [sh6]
  rw [whole_s ht.d] at hdo
  simp only [Option.bind_some] at hdo
  rw [windows_s ht.d] at hdo
  rw [windows_i ht.d] at hv
  simp only [Option.bind_some] at hdo hv
  by_cases q:WiOk t.Dims (ix n.Ints 0) (ix n.Ints 1) (ix n.Ints 2)∧OKD (winV t.Dims (ix n.Ints 0) (ix n.Ints 1) (ix n.Ints 2)).Dims
  ·rw [if_pos q] at hdo hv
   have vg:=VG_win ht.d q.1 q.2
   obtain ⟨d,d1,d2⟩:=look_s ht vg rfl
   rw [d1] at hdo
   exact .inl ⟨⟨_,d⟩,byv_yes hv vg,hdo,d2⟩
  ·rw [if_neg q] at hdo hv
   rw [look0_s ht] at hdo
   exact .inr ⟨[],byv_no hv,hdo⟩
theorem bi_args1 {s i j}{n:Node}{args:List (List Int)}(h:args.length≠1):Z1l s i j n args=some ([],false):=by
 unfold Z1l
 rw [if_pos (by simp; omega)]
theorem bi_no1 {s i j}{n:Node}{ds:List Int}(h:¬ (i≤(n.Ints.length:Int)∧(n.Ints.length:Int)≤j)):Z1l s i j n [ds]=some ([],false):=by
 unfold Z1l
 rw [if_neg (by simp),if_pos (by simp)]
 unfold Z2l
 rw [if_pos (by simp; omega)]
 rfl
theorem bi_yes1 {s i j}{n:Node}{ds:List Int}(h:i≤(n.Ints.length:Int)∧(n.Ints.length:Int)≤j):Z1l s i j n [ds]=(Z1v n.Ints ds).bind fun r=>some (r.1,r.2.2):=by
 unfold Z1l
 rw [if_neg (by simp),if_pos (by simp)]
 unfold Z2l
 rw [if_neg (by simp; omega)]
 have e0:ix [ds] (0:Int)=ds:=rfl
 rw [e0]
 cases Z1v n.Ints ds<;>rfl
theorem bi_args2 {s i j}{n:Node}{args:List (List Int)}(h:args.length≠1):Z1m s i j n args=some ([],false):=by
 unfold Z1m
 rw [if_pos (by simp; omega)]
theorem bi_no2 {s i j}{n:Node}{ds:List Int}(h:¬ (i≤(n.Ints.length:Int)∧(n.Ints.length:Int)≤j)):Z1m s i j n [ds]=some ([],false):=by
 unfold Z1m
 rw [if_neg (by simp),if_pos (by simp)]
 unfold Z2m
 rw [if_pos (by simp; omega)]
 rfl
theorem bi_yes2 {s i j}{n:Node}{ds:List Int}(h:i≤(n.Ints.length:Int)∧(n.Ints.length:Int)≤j):Z1m s i j n [ds]=(Z1w n.Ints ds).bind fun r=>some (r.1,r.2.2):=by
 unfold Z1m
 rw [if_neg (by simp),if_pos (by simp)]
 unfold Z2m
 rw [if_neg (by simp; omega)]
 have e0:ix [ds] (0:Int)=ds:=rfl
 rw [e0]
 cases Z1w n.Ints ds<;>rfl
theorem bi_args3 {s i j}{n:Node}{args:List (List Int)}(h:args.length≠1):Z1n s i j n args=some ([],false):=by
 unfold Z1n
 rw [if_pos (by simp; omega)]
theorem bi_no3 {s i j}{n:Node}{ds:List Int}(h:¬ (i≤(n.Ints.length:Int)∧(n.Ints.length:Int)≤j)):Z1n s i j n [ds]=some ([],false):=by
 unfold Z1n
 rw [if_neg (by simp),if_pos (by simp)]
 unfold Z2n
 rw [if_pos (by simp; omega)]
 rfl
theorem bi_yes3 {s i j}{n:Node}{ds:List Int}(h:i≤(n.Ints.length:Int)∧(n.Ints.length:Int)≤j):Z1n s i j n [ds]=(Z1x n.Ints ds).bind fun r=>some (r.1,r.2.2):=by
 unfold Z1n
 rw [if_neg (by simp),if_pos (by simp)]
 unfold Z2n
 rw [if_neg (by simp; omega)]
 have e0:ix [ds] (0:Int)=ds:=rfl
 rw [e0]
 cases Z1x n.Ints ds<;>rfl
theorem bi_args4 {s i j}{n:Node}{args:List (List Int)}(h:args.length≠1):Z1o s i j n args=some ([],false):=by
 unfold Z1o
 rw [if_pos (by simp; omega)]
theorem bi_no4 {s i j}{n:Node}{ds:List Int}(h:¬ (i≤(n.Ints.length:Int)∧(n.Ints.length:Int)≤j)):Z1o s i j n [ds]=some ([],false):=by
 unfold Z1o
 rw [if_neg (by simp),if_pos (by simp)]
 unfold Z2o
 rw [if_pos (by simp; omega)]
 rfl
theorem bi_yes4 {s i j}{n:Node}{ds:List Int}(h:i≤(n.Ints.length:Int)∧(n.Ints.length:Int)≤j):Z1o s i j n [ds]=(Z1y n.Ints ds).bind fun r=>some (r.1,r.2.2):=by
 unfold Z1o
 rw [if_neg (by simp),if_pos (by simp)]
 unfold Z2o
 rw [if_neg (by simp; omega)]
 have e0:ix [ds] (0:Int)=ds:=rfl
 rw [e0]
 cases Z1y n.Ints ds<;>rfl
theorem op_pad {n:Node}{out:List Tensor}(hc:Caps n out)(h:n.Op=15):Res n out (Zd n (out.map Tensor.Dims)):=by
 refine res_one hc (kd:=⟨8,false,4,4,str2⟩) (u:=str2) (ui:=4) (uj:=4) (by rw [h]; rfl) rfl rfl has_di has_ii has_fi has_xi (form_s (by omega) (by omega) (by rw [h]; rfl) (by rw [h]; rfl) (by rw [h]; rfl) (by simp [h]) ⟨by omega,by omega⟩) ⟨by omega,by omega,by omega⟩ (fun hb=>by cases hb) ?_ ?_ ?_
 ·intro args ha; rw [sh8]; exact bi_args1 ha
 ·intro t ht hn _; rw [sh8]; exact ⟨_,bi_no1 hn⟩
 ·intro hF t ht
  obtain ⟨f1,f2,f3,f4,f5,f6,f7⟩:=hF
  have hdo:Z1 n [t]=(Z0r t (ix n.Ints 0) (ix n.Ints 1) (ix n.Ints 2) (ix n.Ints 3)).bind fun r=>some r:=by
   unfold Z1
   simp only [Z1_J1,Z1_J2,h]
   simp only [Int.reduceBEq,Bool.false_eq_true,if_false,if_true,beq_self_eq_true]
   rw [if_pos (by simp),if_pos (by omega),if_pos (by omega),if_pos (by omega),if_pos (by omega)]
   rfl
  have hk:Z1v n.Ints t.Dims=(Zx t.Dims (ix n.Ints 0) (ix n.Ints 1) (ix n.Ints 2) (ix n.Ints 3)).bind fun r=>some (r.1,r.2.1,r.2.2):=by
   unfold Z1v
   rw [if_pos (by omega),if_pos (by omega),if_pos (by omega),if_pos (by omega)]
  rw [sh8,bi_yes1 ⟨f6,f7⟩,hk,hdo]
  obtain ⟨ds,ps,e1,e2⟩:Sh (Zx t.Dims (ix n.Ints 0) (ix n.Ints 1) (ix n.Ints 2) (ix n.Ints 3)) (PaOk t.Dims (ix n.Ints 0) (ix n.Ints 1) (ix n.Ints 2) (ix n.Ints 3)) (t.Dims.set (ix n.Ints 0).toNat (padN t.Dims (ix n.Ints 0) (ix n.Ints 1) (ix n.Ints 2) (ix n.Ints 3))):=pad_i ht.d
  obtain ⟨a1,a2⟩:=pad_s (a:=ix n.Ints 0) (b:=ix n.Ints 1) (f:=ix n.Ints 2) (g:=ix n.Ints 3) ht
  rw [e1]
  by_cases c:PaOk t.Dims (ix n.Ints 0) (ix n.Ints 1) (ix n.Ints 2) (ix n.Ints 3)
  ·obtain ⟨d,d1,d2⟩:=a1 c
   have e3:=e2 c
   rw [d1,decide_eq_true c]
   subst e3
   exact .inl ⟨⟨_,d⟩,rfl,rfl,d2⟩
  ·rw [a2 c,decide_eq_false c]
   exact .inr ⟨ds,rfl,rfl⟩
theorem op_gather {n:Node}{out:List Tensor}(hc:Caps n out)(h:n.Op=16):Res n out (Zd n (out.map Tensor.Dims)):=by
 refine res_one hc (kd:=⟨9,false,1,4097,str2⟩) (u:=str2) (ui:=1) (uj:=4097) (by rw [h]; rfl) rfl rfl has_di has_ii has_fi has_xi (form_s (by omega) (by omega) (by rw [h]; rfl) (by rw [h]; rfl) (by rw [h]; rfl) (by simp [h]) ⟨by omega,by omega⟩) ⟨by omega,by omega,by omega⟩ (fun hb=>by cases hb) ?_ ?_ ?_
 ·intro args ha; rw [sh9]; exact bi_args2 ha
 ·intro t ht hn _; rw [sh9]; exact ⟨_,bi_no2 hn⟩
 ·intro hF t ht
  obtain ⟨f1,f2,f3,f4,f5,f6,f7⟩:=hF
  have hdo:Z1 n [t]=(Z0q t (ix n.Ints 0) (n.Ints.drop 1)).bind fun r=>some r:=by
   unfold Z1
   simp only [Z1_J1,Z1_J2,h]
   simp only [Int.reduceBEq,Bool.false_eq_true,if_false,if_true,beq_self_eq_true]
   rw [if_pos (by simp),if_pos (by omega),if_pos (by omega),sub_all]
   rfl
  have hk:Z1w n.Ints t.Dims=(Z0d t.Dims (ix n.Ints 0) (n.Ints.drop 1)).bind fun r=>some (r.1,r.2.1,r.2.2):=by
   unfold Z1w
   rw [if_pos (by omega),if_pos (by omega),sub_all]
   rfl
  rw [sh9,bi_yes2 ⟨f6,f7⟩,hk,hdo]
  obtain ⟨ds,ps,e1,e2⟩:Sh (Z0d t.Dims (ix n.Ints 0) (n.Ints.drop 1)) (GaOk t.Dims (ix n.Ints 0) (n.Ints.drop 1)) (t.Dims.set (ix n.Ints 0).toNat ((n.Ints.drop 1).length:Int)):=gather_i ht.d (by have:=hc.i; simp; omega)
  obtain ⟨a1,a2⟩:=gather_s (a:=ix n.Ints 0) (xs:=n.Ints.drop 1) ht (by have:=hc.i; simp; omega)
  rw [e1]
  by_cases c:GaOk t.Dims (ix n.Ints 0) (n.Ints.drop 1)
  ·obtain ⟨d,d1,d2⟩:=a1 c
   have e3:=e2 c
   rw [d1,decide_eq_true c]
   subst e3
   exact .inl ⟨⟨_,d⟩,rfl,rfl,d2⟩
  ·rw [a2 c,decide_eq_false c]
   exact .inr ⟨ds,rfl,rfl⟩
theorem op_scatter {n:Node}{out:List Tensor}(hc:Caps n out)(h:n.Op=17):Res n out (Zd n (out.map Tensor.Dims)):=by
 refine res_one hc (kd:=⟨10,false,2,4098,str2⟩) (u:=str2) (ui:=2) (uj:=4098) (by rw [h]; rfl) rfl rfl has_di has_ii has_fi has_xi (form_s (by omega) (by omega) (by rw [h]; rfl) (by rw [h]; rfl) (by rw [h]; rfl) (by simp [h]) ⟨by omega,by omega⟩) ⟨by omega,by omega,by omega⟩ (fun hb=>by cases hb) ?_ ?_ ?_
 ·intro args ha; rw [sh10]; exact bi_args3 ha
 ·intro t ht hn _; rw [sh10]; exact ⟨_,bi_no3 hn⟩
 ·intro hF t ht
  obtain ⟨f1,f2,f3,f4,f5,f6,f7⟩:=hF
  have hdo:Z1 n [t]=(Z0s t (ix n.Ints 0) (n.Ints.drop 2) (ix n.Ints 1)).bind fun r=>some r:=by
   unfold Z1
   simp only [Z1_J1,Z1_J2,h]
   simp only [Int.reduceBEq,Bool.false_eq_true,if_false,if_true,beq_self_eq_true]
   rw [if_pos (by simp),if_pos (by omega),if_pos (by omega),if_pos (by omega),sub_all]
   rfl
  have hk:Z1x n.Ints t.Dims=(Z0e t.Dims (ix n.Ints 0) (n.Ints.drop 2) (ix n.Ints 1)).bind fun r=>some (r.1,r.2.1,r.2.2):=by
   unfold Z1x
   rw [if_pos (by omega),if_pos (by omega),if_pos (by omega),sub_all]
   rfl
  rw [sh10,bi_yes3 ⟨f6,f7⟩,hk,hdo]
  obtain ⟨ds,ps,e1,e2⟩:Sh (Z0e t.Dims (ix n.Ints 0) (n.Ints.drop 2) (ix n.Ints 1)) (ScOk t.Dims (ix n.Ints 0) (n.Ints.drop 2) (ix n.Ints 1)) (t.Dims.set (ix n.Ints 0).toNat (ix n.Ints 1)):=scatter_i ht.d (by have:=hc.i; simp; omega)
  obtain ⟨a1,a2⟩:=scatter_s (a:=ix n.Ints 0) (n:=ix n.Ints 1) (xs:=n.Ints.drop 2) ht (by have:=hc.i; simp; omega)
  rw [e1]
  by_cases c:ScOk t.Dims (ix n.Ints 0) (n.Ints.drop 2) (ix n.Ints 1)
  ·obtain ⟨d,d1,d2⟩:=a1 c
   have e3:=e2 c
   rw [d1,decide_eq_true c]
   subst e3
   exact .inl ⟨⟨_,d⟩,rfl,rfl,d2⟩
  ·rw [a2 c,decide_eq_false c]
   exact .inr ⟨ds,rfl,rfl⟩
theorem op_fold {n:Node}{out:List Tensor}(hc:Caps n out)(h:n.Op=19):Res n out (Zd n (out.map Tensor.Dims)):=by
 refine res_one hc (kd:=⟨11,false,3,3,str2⟩) (u:=str2) (ui:=3) (uj:=3) (by rw [h]; rfl) rfl rfl has_di has_ii has_fi has_xi (form_s (by omega) (by omega) (by rw [h]; rfl) (by rw [h]; rfl) (by rw [h]; rfl) (by simp [h]) ⟨by omega,by omega⟩) ⟨by omega,by omega,by omega⟩ (fun hb=>by cases hb) ?_ ?_ ?_
 ·intro args ha; rw [sh11]; exact bi_args4 ha
 ·intro t ht hn _; rw [sh11]; exact ⟨_,bi_no4 hn⟩
 ·intro hF t ht
  obtain ⟨f1,f2,f3,f4,f5,f6,f7⟩:=hF
  have hdo:Z1 n [t]=(Z0p t (ix n.Ints 0) (ix n.Ints 1) (ix n.Ints 2)).bind fun r=>some r:=by
   unfold Z1
   simp only [Z1_J1,Z1_J2,h]
   simp only [Int.reduceBEq,Bool.false_eq_true,if_false,if_true,beq_self_eq_true]
   rw [if_pos (by simp),if_pos (by omega),if_pos (by omega),if_pos (by omega)]
   rfl
  have hk:Z1y n.Ints t.Dims=(Z4 t.Dims (ix n.Ints 0) (ix n.Ints 1) (ix n.Ints 2)).bind fun r=>some (r.1,r.2.1,r.2.2):=by
   unfold Z1y
   rw [if_pos (by omega),if_pos (by omega),if_pos (by omega)]
  rw [sh11,bi_yes4 ⟨f6,f7⟩,hk,hdo]
  obtain ⟨ds,ps,e1,e2⟩:Sh (Z4 t.Dims (ix n.Ints 0) (ix n.Ints 1) (ix n.Ints 2)) (FoOk t.Dims (ix n.Ints 0) (ix n.Ints 1) (ix n.Ints 2)) ((t.Dims.set (ix n.Ints 0).toNat (ix n.Ints 2)).take (t.Dims.length - 1)):=fold_i ht.d
  obtain ⟨a1,a2⟩:=fold_s (a:=ix n.Ints 0) (st:=ix n.Ints 1) (n:=ix n.Ints 2) ht
  rw [e1]
  by_cases c:FoOk t.Dims (ix n.Ints 0) (ix n.Ints 1) (ix n.Ints 2)
  ·obtain ⟨d,d1,d2⟩:=a1 c
   have e3:=e2 c
   rw [d1,decide_eq_true c]
   subst e3
   exact .inl ⟨⟨_,d⟩,rfl,rfl,d2⟩
  ·rw [a2 c,decide_eq_false c]
   exact .inr ⟨ds,rfl,rfl⟩
def LT (s:Str):Prop:=s.length≤6∧∀ c∈s,97≤c.toNat∧c.toNat≤122
instance (s:Str):Decidable (LT s):=by unfold LT; infer_instance
theorem letters_s {s:Str}(hb:s.length<big):Z0u s=some (decide (LT s)):=by
 unfold Z0u
 have:=loop_all s (fun i:Int=>Z0u_L1 s i) (fun i=>i) (fun c=>decide (97≤c.toNat∧c.toNat≤122)) (.inl false) (.inr ())
  (fun k hk=>by
   have hbt:bt s (k:Int)=((ix s (k:Int)).toNat:Int):=rfl
   simp only [Z0u_L1]
   rw [if_pos (by simp; omega),if_pos (by omega),w64k (by omega)]
   by_cases q:97≤(ix s (k:Int)).toNat∧(ix s (k:Int)).toNat≤122
   ·rw [if_neg (by simp only [Bool.or_eq_true,decide_eq_true_eq,hbt]; omega),decide_eq_true q,if_pos rfl]
   ·rw [if_pos (by simp only [Bool.or_eq_true,decide_eq_true_eq,hbt]; omega),decide_eq_false q,if_neg (by simp)])
  (by simp only [Z0u_L1]; rw [if_neg (by simp)])
 rw [this]
 have e:(s.all fun c=>decide (97≤c.toNat∧c.toNat≤122))=decide (∀ c∈s,97≤c.toNat∧c.toNat≤122):=by
  rw [Bool.eq_iff_iff]
  simp only [List.all_eq_true,decide_eq_true_eq]
 rw [e]
 by_cases c:∀ c∈s,97≤c.toNat∧c.toNat≤122
 ·rw [decide_eq_true c,if_pos rfl]
  show some (decide ((s.length:Int)≤6))=_
  congr 1
  rw [Bool.eq_iff_iff]
  simp only [decide_eq_true_eq]
  exact ⟨fun h=>⟨by omega,c⟩,fun h=>by have:=h.1; omega⟩
 ·rw [decide_eq_false c,decide_eq_false (fun z:LT s=>c z.2)]; rfl
theorem byte_inj {a b:UInt8}:((a.toNat:Int)==(b.toNat:Int))=decide (a=b):=by
 rw [Bool.eq_iff_iff]
 simp only [beq_iff_eq,decide_eq_true_eq]
 exact ⟨fun h=>UInt8.toNat_inj.1 (by omega),fun h=>by rw [h]⟩
theorem has_s {s:Str}(hb:s.length<big)(b:UInt8):Z0t s (b.toNat:Int)=some (decide (b∈s)):=by
 unfold Z0t
 have:=loop_all s (fun i:Int=>Z0t_L1 s (b.toNat:Int) i) (fun i=>i) (fun c=>!(decide (c=b))) (.inl true) (.inr ())
  (fun k hk=>by
   have hbt:(bt s (k:Int)==(b.toNat:Int))=decide (ix s (k:Int)=b):=byte_inj
   simp only [Z0t_L1]
   rw [if_pos (by simp; omega),if_pos (by omega),w64k (by omega),hbt]
   cases decide (ix s (k:Int)=b)<;>rfl)
  (by simp only [Z0t_L1]; rw [if_neg (by simp)])
 rw [this]
 by_cases c:b∈s
 ·have e:(s.all fun c=>!(decide (c=b)))=false:=by
   rw [List.all_eq_false]; exact ⟨b,c,by simp⟩
  rw [e,decide_eq_true c]; rfl
 ·have e:(s.all fun c=>!(decide (c=b)))=true:=by
   rw [List.all_eq_true]; intro x hx
   have:x≠b:=fun q=>c (q▸hx)
   simp [this]
  rw [e,decide_eq_false c]; rfl
theorem byte_back (c:UInt8):((c.toNat:Int)).toNat.toUInt8=c:=by
 rw [Int.toNat_natCast]
 exact UInt8.ofNat_toNat
theorem ibyte_lt (s:Str)(c:UInt8):(Lib.indexByte s c<0)↔c ∉ s:=by
 induction s with
 | nil=>simp [Lib.indexByte]
 | cons b l ih =>
  unfold Lib.indexByte
  by_cases e:b=c
  ·subst e; simp
  ·have hb:(b==c)=false:=by simpa using e
   have:=Lib.indexByte_ge l c
   rw [hb]
   simp only [Bool.false_eq_true,if_false,List.mem_cons,not_or]
   rw [← ih]
   by_cases q:Lib.indexByte l c = -1
   ·rw [q]; simp; exact fun z=>e z.symm
   ·rw [if_neg (by simpa using q)]
    exact ⟨fun z=>by omega,fun z=>by omega⟩
theorem ibyte_i (s:Str)(c:UInt8):∃ r,Z1q s (c.toNat:Int)=some r∧(r<0↔c ∉ s):=by
 unfold Z1q internal_stringslite_IndexByte
 rw [byte_back]
 exact ⟨_,rfl,ibyte_lt s c⟩
def cut:Str→Option (Str×Str)
 | []=>none
 | [_]=>none
 | x::y::r=>if x=45∧y=62 then some ([],r) else (cut (y::r)).map fun p=>(x::p.1,p.2)
def ce:Str→Nat
 | []=>0
 | [_]=>0
 | x::y::r=>if x=45∧y=62 then 0 else ce (y::r)+1
theorem ce_some:∀ {s l o:Str},cut s=some (l,o)→ce s=l.length∧s=l++45::62::o
 | [],_,_,h=>by cases h
 | [_],_,_,h=>by cases h
 | x::y::r,l,o,h=>by
  unfold cut at h; unfold ce
  by_cases c:x=45∧y=62
  ·rw [if_pos c] at h ⊢
   obtain ⟨rfl,rfl⟩:=c
   cases h
   exact ⟨rfl,rfl⟩
  ·rw [if_neg c] at h ⊢
   obtain ⟨⟨l',o'⟩,h1,h2⟩:=Option.map_eq_some_iff.1 h
   cases h2
   obtain ⟨i1,i2⟩:=ce_some h1
   exact ⟨by rw [i1]; rfl,by rw [i2]; rfl⟩
theorem ce_none:∀ {s:Str},cut s=none→s.length≤ce s+1
 | [],h=>by simp
 | [_],h=>by simp
 | x::y::r,h=>by
  unfold cut at h; unfold ce
  by_cases c:x=45∧y=62
  ·rw [if_pos c] at h; cases h
  ·rw [if_neg c] at h ⊢
   have:=ce_none (s:=y::r) (by simpa using h)
   simp at this ⊢; omega
theorem ce_lt:∀ {s:Str} {j:Nat},j<ce s→j+1<s.length∧(s.drop j).take 2≠[45,62]
 | [],_,h=>by simp [ce] at h
 | [_],_,h=>by simp [ce] at h
 | x::y::r,j,h=>by
  unfold ce at h
  by_cases c:x=45∧y=62
  ·rw [if_pos c] at h; omega
  ·rw [if_neg c] at h
   cases j with
   | zero=>exact ⟨by simp,by simpa using c⟩
   | succ j =>
    obtain ⟨a,b⟩:=ce_lt (s:=y::r) (j:=j) (by omega)
    exact ⟨by simp at a ⊢; omega,by simpa using b⟩
theorem ce_at:∀ {s:Str},ce s+1<s.length→(s.drop (ce s)).take 2=[45,62]
 | [],h=>by simp at h
 | [_],h=>by simp [ce] at h
 | x::y::r,h=>by
  unfold ce at h ⊢
  by_cases c:x=45∧y=62
  ·rw [if_pos c]; obtain ⟨rfl,rfl⟩:=c; rfl
  ·rw [if_neg c] at h ⊢
   have:=ce_at (s:=y::r) (by simp at h ⊢; omega)
   simpa using this
theorem index_cut:∀ (s:Str),Lib.index s str0=match cut s with | some p=>(p.1.length:Int) | none => -1
 | []=>rfl
 | [x]=>by
  unfold Lib.index cut
  simp [str0,Lib.index]
 | x::y::r=>by
  unfold Lib.index cut
  by_cases c:x=45∧y=62
  ·obtain ⟨rfl,rfl⟩:=c
   rw [if_pos (by simp [str0]),if_pos ⟨rfl,rfl⟩]; rfl
  ·rw [if_neg (by simp [str0]; intro a b; exact c ⟨a.symm,b.symm⟩),if_neg c,index_cut (y::r)]
   cases cut (y::r) with
   | none=>rfl
   | some p =>
    simp only [Option.map_some]
    rw [if_neg (by simp)]
    simp
def pre (p:Str):List Str→List Str
 | []=>[p]
 | g::gs=>(p++g)::gs
def spl:Str→List Str
 | []=>[[]]
 | x::r=>if x=44 then []::spl r else pre [x] (spl r)
theorem spl_cons (x:UInt8)(r:Str):spl (x::r)=if x=44 then []::spl r else pre [x] (spl r):=rfl
theorem pre_ne (p:Str)(gs:List Str):pre p gs≠[]:=by cases gs<;>simp [pre]
theorem spl_ne (s:Str):spl s≠[]:=by
 cases s with
 | nil=>simp [spl]
 | cons x r=>unfold spl; split; simp; exact pre_ne _ _
theorem pre_nil {gs:List Str}(h:gs≠[]):pre [] gs=gs:=by
 cases gs with
 | nil=>exact absurd rfl h
 | cons g gs=>rfl
theorem pre_pre (p q:Str)(gs:List Str):pre p (pre q gs)=pre (p++q) gs:=by
 cases gs<;>simp [pre]
theorem spl_len (s:Str):(spl s).length=s.count 44+1:=by
 induction s with
 | nil=>rfl
 | cons x r ih =>
  unfold spl
  by_cases c:x=44
  ·subst c; simp [ih]
  ·rw [if_neg c,List.count_cons_of_ne (fun z=>c z)]
   cases h:spl r with
   | nil=>exact absurd h (spl_ne r)
   | cons g gs=>rw [h] at ih; simpa [pre] using ih
theorem spl_no {s:Str}(h:s.count 44=0):spl s=[s]:=by
 induction s with
 | nil=>rfl
 | cons x r ih =>
  have c:x≠44:=by intro q; subst q; simp at h
  rw [List.count_cons_of_ne (fun z=>c z)] at h
  unfold spl
  rw [if_neg c,ih h]; rfl
theorem spl_mem (s:Str)(c:UInt8)(hc:c≠44):(∃ g∈spl s,c∈g)↔c∈s:=by
 induction s with
 | nil=>simp [spl]
 | cons x r ih =>
  unfold spl
  by_cases q:x=44
  ·subst q
   rw [if_pos rfl]
   simp [hc,ih]
  ·rw [if_neg q,List.mem_cons,← ih]
   cases h:spl r with
   | nil=>exact absurd h (spl_ne r)
   | cons g gs=>simp [pre,or_assoc]
theorem comma:∀ {x:Str},x.count 44≠0→∃ g r,x=g++44::r∧Lib.index x str6=(g.length:Int)∧spl x=g::spl r∧x.count 44=r.count 44+1
 | [],h=>by simp at h
 | b::l,h=>by
  by_cases c:b=44
  ·subst c
   exact ⟨[],l,rfl,by unfold Lib.index; simp [str6],by rw [spl_cons,if_pos rfl],by simp⟩
  ·rw [List.count_cons_of_ne (fun z=>c z)] at h
   obtain ⟨g,r,h1,h2,h3,h4⟩:=comma h
   refine ⟨b::g,r,by rw [h1]; rfl,?_,?_,?_⟩
   ·unfold Lib.index
    rw [if_neg (by simp [str6]; exact fun z=>c z.symm),h2,if_neg (by simp)]
    simp
   ·rw [spl_cons,if_neg c,h3]; rfl
   ·rw [List.count_cons_of_ne (fun z=>c z)]; exact h4
theorem split_i {p:Str}(hb:p.length≤1048576):Z2y p str6=some (spl p):=by
 have hc:p.count 44≤p.length:=List.count_le_length
 have hn:(if (w64 ((p.length:Int)+1))<((p.count 44+1:Nat):Int) then (w64 ((p.length:Int)+1)) else ((p.count 44+1:Nat):Int))=((p.count 44+1:Nat):Int):=by
  rw [w64k (by unfold big; omega),if_neg (by omega)]
 have hw:w64 (((p.count 44+1:Nat):Int) - 1)=(p.count 44:Int):=by rw [w64_id (by omega) (by omega)]; omega
 unfold Z2y Z0j
 rw [if_neg (by decide),if_neg (by simp [str6]),if_pos (by decide)]
 have hcnt:Z36 p str6=some (p.count 44:Int):=rfl
 rw [hcnt]
 simp only [Option.bind_some]
 rw [w64k (by unfold big; omega)]
 unfold Z0j_J2
 rw [hn,if_pos (by omega),Int.toNat_natCast]
 obtain ⟨e,he,hp⟩:=loopI (f:=fun s:Str×List Str×Int=>Z0j_L1 p str6 0 ((p.count 44+1:Nat):Int) s.1 s.2.1 s.2.2)
  (fun j s=>s.2.2=(j:Int)∧s.2.1.length=p.count 44+1∧s.2.1.take j++spl s.1=spl p∧s.1.count 44+j=p.count 44∧s.1.length≤1048576) (p.count 44)
  (Post:=fun e=>e.2.2=(p.count 44:Int)∧e.2.1.length=p.count 44+1∧e.2.1.take (p.count 44)++[e.1]=spl p)
  (fun j s hj hI=>by
   obtain ⟨x,a,i⟩:=s
   obtain ⟨h1,h2,h3,h4,h5⟩:=hI
   simp only at h1 h2 h3 h4 h5
   subst h1
   obtain ⟨g,r,g1,g2,g3,g4⟩:=comma (x:=x) (by omega)
   have hx:x.length=g.length+1+r.length:=by rw [g1]; simp; omega
   have hi:Z29 x str6=some (g.length:Int):=by
    unfold Z29 internal_stringslite_Index
    rw [if_pos (by omega),g2]; rfl
   have w0:w64 ((g.length:Int)+0)=(g.length:Int):=by rw [w64_id (by omega) (by omega)]; omega
   have w1:w64 ((g.length:Int)+((str6.length:Nat):Int))=((g.length+1:Nat):Int):=by
    show w64 ((g.length:Int)+1)=_
    exact w64k (by unfold big; omega)
   refine ⟨(r,a.set j g,((j+1:Nat):Int)),?_,rfl,by simpa using h2,?_,by show r.count 44+(j+1)=_; omega,by show r.length≤_; omega⟩
   ·simp only [Z0j_L1]
    rw [hn,hw,if_pos (by simp; omega),hi]
    simp only [Option.bind_some]
    rw [if_neg (by simp),w0,if_pos (by omega),if_pos (by simp; omega)]
    have e1:sub x 0 (g.length:Int)=g:=by rw [sub0,g1]; simp
    have e2:sub x ((g.length+1:Nat):Int) (x.length:Int)=r:=by rw [sub_all,Int.toNat_natCast,g1,List.drop_append]; simp
    rw [w1,e1,Int.toNat_natCast]
    simp only [nm,Option.bind_some]
    rw [if_pos (by omega),e2,w64k (by unfold big; omega)]
   ·rw [← h3,g3,List.take_set]
    have hl:j<a.length:=by omega
    rw [List.take_succ_eq_append_getElem hl,List.set_append_right _ _ (by simp; omega)]
    simp [Nat.min_eq_left (Nat.le_of_lt hl)]
    )
  (fun s hI=>by
   obtain ⟨x,a,i⟩:=s
   obtain ⟨h1,h2,h3,h4,h5⟩:=hI
   simp only at h1 h2 h3 h4 h5
   subst h1
   rw [spl_no (by omega)] at h3
   refine ⟨(x,a,(p.count 44:Int)),?_,rfl,h2,h3⟩
   simp only [Z0j_L1]
   rw [hn,hw,if_neg (by simp)])
  (s:=(p,List.replicate (p.count 44+1) [],0)) ⟨rfl,by simp,by simp,by simp,hb⟩
 rw [he]
 obtain ⟨x,a,i⟩:=e
 obtain ⟨h1,h2,h3⟩:=hp
 simp only at h1 h2 h3
 subst h1
 simp only [Option.bind_some,Z0j_J3]
 rw [hn,if_pos (by simp; omega),w64k (by unfold big; omega),if_pos (by simp; omega),Int.toNat_natCast]
 simp only [Option.bind_some]
 congr 1
 rw [sub0,List.take_set,← h3]
 have hl:p.count 44<a.length:=by omega
 rw [List.take_succ_eq_append_getElem hl,List.set_append_right _ _ (by simp; omega)]
 simp [Nat.min_eq_left (Nat.le_of_lt hl)]
def OL (gs:List Str)(o:Str)(i:Nat):Prop:=(∃ g∈gs,ix o (i:Int)∈g)∧ix o (i:Int) ∉ o.take i
instance (gs:List Str)(o:Str)(i:Nat):Decidable (OL gs o i):=by unfold OL; infer_instance
def PO (gs:List Str)(o:Str):Prop:=gs.length≤6∧LT o∧(∀ g∈gs,LT g)∧∀ i∈List.range o.length,OL gs o i
instance (gs:List Str)(o:Str):Decidable (PO gs o):=by unfold PO; infer_instance
def parts (form:Str):List Str×Str×Bool:=match cut form with
 | none=>([],[],false)
 | some p=>if PO (spl p.1) p.2 then (spl p.1,p.2,true) else ([],[],false)
theorem at_s {form:Str}(hb:form.length≤1048576):loopM (fun s:Int=>Z0_L1 form s) 0=some (ce form:Int):=by
 have w:∀ j:Nat,j≤1048576→w64 ((j:Int)+1)=((j+1:Nat):Int)∧w64 ((j:Int)+2)=((j+2:Nat):Int):=by
  intro j hj
  exact ⟨w64k (by unfold big; omega),by rw [w64_id (by omega) (by omega)]; omega⟩
 have sb:∀ j:Nat,sub form (j:Int) ((j+2:Nat):Int)=(form.drop j).take 2:=by
  intro j
  unfold sub
  rw [Int.toNat_natCast,Int.toNat_natCast,List.drop_take]
  congr 1; omega
 have hle:ce form≤form.length:=by
  by_cases c:ce form=0
  ·omega
  ·have:=(ce_lt (s:=form) (j:=ce form - 1) (by omega)).1; omega
 refine loopN (f:=fun s:Int=>Z0_L1 form s) (fun j=>(j:Int)) (ce form) (fun j hj=>?_) ?_ rfl
 ·obtain ⟨a,b⟩:=ce_lt hj
  simp only [Z0_L1]
  rw [(w j (by omega)).1,(w j (by omega)).2,sb,if_pos (fun _=>by omega),if_pos]
  simp only [Bool.and_eq_true,decide_eq_true_eq,Bool.not_eq_true',beq_eq_false_iff_ne]
  exact ⟨by omega,b⟩
 ·simp only [Z0_L1]
  rw [(w _ (by omega)).1,(w _ (by omega)).2,sb]
  by_cases c:ce form+1<form.length
  ·rw [if_pos (fun _=>by omega),if_neg]
   rw [ce_at c]; simp [str0]
  ·rw [if_pos (fun z=>by simp at z; omega),if_neg]
   simp only [Bool.and_eq_true,decide_eq_true_eq]
   omega
theorem groups_s {form l o:Str}(hb:form.length≤1048576)(h:cut form=some (l,o)):loopM (fun s:List Str×Int×Int=>Z0_L2 form (l.length:Int) s.1 s.2.1 s.2.2) ([],0,0)=some (spl l):=by
 obtain ⟨e1,e2⟩:=ce_some h
 have hl:form.length=l.length+2+o.length:=by rw [e2]; simp; omega
 obtain ⟨r,hr,hp⟩:=loopI (f:=fun s:List Str×Int×Int=>Z0_L2 form (l.length:Int) s.1 s.2.1 s.2.2)
  (fun j s=>s.2.2=(j:Int)∧s.1.length≤j∧((∃ F:Nat,F≤j∧s.2.1=(F:Int)∧j≤l.length∧s.1++pre ((l.take j).drop F) (spl (l.drop j))=spl l)∨(j=l.length+1∧s.1=spl l))) (l.length+1)
  (Post:=fun r=>r=spl l)
  (fun j s hj hI=>by
   obtain ⟨gs,from_,i⟩:=s
   obtain ⟨h1,h2,h3⟩:=hI
   simp only at h1 h2 h3
   subst h1
   rcases h3 with ⟨F,f1,f2,f3,f4⟩|⟨q,_⟩
   ·subst f2
    have hs:sub form (F:Int) (j:Int)=(l.take j).drop F:=by
     unfold sub
     rw [Int.toNat_natCast,Int.toNat_natCast,e2,List.take_append_of_le_length f3]
    simp only [Z0_L2]
    rw [if_pos (by simp; omega),if_pos (fun _=>by omega)]
    by_cases c:j=l.length
    ·rw [if_pos (by simp [c]),if_pos (by omega),hs,if_pos (by simp; omega)]
     simp only [Z0_J3]
     refine ⟨_,by rw [w64k (by unfold big; omega)],rfl,by simp; omega,.inr ⟨by omega,?_⟩⟩
     subst c
     rw [List.drop_length] at f4
     simpa [spl,pre] using f4
    ·have hj2:j<l.length:=by omega
     have hd:l.drop j=l[j]::l.drop (j+1):=List.drop_eq_getElem_cons hj2
     have hbt:(bt form (j:Int)==44)=decide (l[j]=44):=by
      have:ix form (j:Int)=l[j]:=by
       rw [ix_at (by omega)]
       simp only [e2]
       rw [List.getElem_append_left hj2]
      unfold bt
      rw [this]
      have:=byte_inj (a:=l[j]) (b:=44)
      simpa using this
     have hne:((j:Int)==(l.length:Int))=false:=by simp; omega
     rw [hbt,hne,Bool.false_or]
     rw [hd,spl_cons] at f4
     by_cases q:l[j]=44
     ·rw [decide_eq_true q,if_pos rfl,if_pos (by omega),hs,if_pos (by simp; omega)]
      simp only [Z0_J3]
      rw [w64k (by unfold big; omega)]
      refine ⟨_,rfl,rfl,by simp; omega,.inl ⟨j+1,Nat.le_refl _,rfl,by omega,?_⟩⟩
      rw [if_pos q] at f4
      have z:List.drop (j+1) (List.take (j+1) l)=[]:=List.drop_of_length_le (by simp; omega)
      rw [z,pre_nil (spl_ne _),← f4]
      simp [pre]
     ·rw [decide_eq_false q,if_neg (by simp)]
      simp only [Z0_J3]
      rw [w64k (by unfold big; omega)]
      refine ⟨_,rfl,rfl,by show gs.length≤_; omega,.inl ⟨F,by omega,rfl,by omega,?_⟩⟩
      rw [if_neg q,pre_pre] at f4
      rw [← f4,List.take_succ_eq_append_getElem hj2,List.drop_append_of_le_length (by simp; omega)]
   ·omega)
  (fun s hI=>by
   obtain ⟨gs,from_,i⟩:=s
   obtain ⟨h1,h2,h3⟩:=hI
   simp only at h1 h2 h3
   subst h1
   rcases h3 with ⟨F,f1,f2,f3,f4⟩|⟨_,q⟩
   ·omega
   ·refine ⟨gs,?_,q⟩
    simp only [Z0_L2]
    rw [if_neg (by simp; omega)])
  (s:=([],0,0)) ⟨rfl,by simp,.inl ⟨0,by omega,rfl,by omega,by simp [pre_nil (spl_ne l)]⟩⟩
 rw [hr,hp]
theorem spl_le {s g:Str}(h:g∈spl s):g.length≤s.length:=by
 induction s generalizing g with
 | nil=>simp [spl] at h; simp [h]
 | cons x r ih =>
  rw [spl_cons] at h
  by_cases c:x=44
  ·rw [if_pos c] at h
   rcases List.mem_cons.1 h with q | q
   ·simp [q]
   ·have:=ih q; simp; omega
  ·rw [if_neg c] at h
   cases e:spl r with
   | nil=>exact absurd e (spl_ne r)
   | cons g' gs =>
    rw [e] at h ih
    simp only [pre,List.mem_cons] at h
    rcases h with q | q
    ·have:=ih (g:=g') (by simp); rw [q]; simp; omega
    ·have:=ih (g:=g) (by simp [q]); simp; omega
theorem any_s {gs:List Str}{o:Str}{form:Str}{x i:Int}(hgs:gs.length<big)(hg:∀ g∈gs,g.length<big)(ho:sub form (w64 (x+2)) (form.length:Int)=o)(hi:0≤i∧i<(o.length:Int)) :
  loopM (fun s:Bool×Int=>Z0_L5 form x gs i s.1 s.2) (false,0)=some (decide (∃ g∈gs,ix o i∈g)):=by
 have en:∀ b:Bool,decide (∃ g∈gs,ix o i∈g)=gs.any fun g=>decide (ix o i∈g):=by
  intro _
  rw [Bool.eq_iff_iff]; simp
 rw [en true]
 refine loopN (f:=fun s:Bool×Int=>Z0_L5 form x gs i s.1 s.2) (fun j=>((gs.take j).any fun g=>decide (ix o i∈g),(j:Int))) gs.length (fun j hj=>?_) ?_ rfl
 ·simp only [Z0_L5]
  rw [ho,if_pos (by simp; omega),if_pos (fun _=>by omega),if_pos (fun _=>hi),List.take_succ_eq_append_getElem hj,List.any_append,w64k (by omega),ix_at hj]
  have hb:bt o i=((ix o i).toNat:Int):=rfl
  rw [hb,has_s (hg _ (List.getElem_mem hj))]
  cases (gs.take j).any fun g=>decide (ix o i∈g) with
  | true=>simp [gcall]
  | false=>simp [gcall]
 ·simp only [Z0_L5]
  rw [if_neg (by simp),List.take_length]
theorem parts_s {form:Str}(hb:form.length≤1048576):Z0 form=some (parts form):=by
 unfold Z0
 rw [at_s hb]
 simp only [Option.bind_some,Z0_J1]
 unfold parts
 have hle:ce form≤form.length:=by
  by_cases c:ce form=0
  ·omega
  ·have:=(ce_lt (s:=form) (j:=ce form - 1) (by omega)).1; omega
 rw [w64k (by unfold big; omega)]
 cases h:cut form with
 | none =>
  have:=ce_none h
  rw [if_pos (by simp; omega)]
 | some p =>
  obtain ⟨l,o⟩:=p
  obtain ⟨e1,e2⟩:=ce_some h
  have hl:form.length=l.length+2+o.length:=by rw [e2]; simp; omega
  rw [if_neg (by simp; omega),e1,groups_s hb h]
  simp only [Option.bind_some]
  have w2:w64 ((l.length:Int)+2)=((l.length+2:Nat):Int):=by rw [w64_id (by omega) (by omega)]; omega
  have ho:sub form (w64 ((l.length:Int)+2)) (form.length:Int)=o:=by
   rw [w2,sub_all,Int.toNat_natCast,e2,List.drop_append]
   simp
  have hgl:(spl l).length<big:=by
   rw [spl_len]; have:l.count 44≤l.length:=List.count_le_length; unfold big; omega
  unfold Z0_J4
  rw [ho,if_pos (by rw [w2]; omega),letters_s (by unfold big; omega)]
  by_cases c1:(spl l).length≤6
  ·have d1:decide (((spl l).length:Int)>6)=false:=by simp; omega
   rw [d1]
   simp only [gcall,Bool.not_false,cond_true,Option.bind_some,Bool.false_or]
   by_cases c2:LT o
   ·rw [decide_eq_true c2,if_neg (by simp)]
    have hl3:=loop_all (spl l) (fun s:Int=>Z0_L3 (spl l) s) (fun i=>i) (fun g=>decide (LT g)) (.inl ([],[],false)) (.inr ())
     (fun k hk=>by
      simp only [Z0_L3]
      rw [if_pos (by simp; omega),if_pos (by omega),w64k (by omega),letters_s (by have:=spl_le (ix_mem hk); unfold big; omega)]
      cases decide (LT (ix (spl l) (k:Int)))<;>rfl)
     (by simp only [Z0_L3]; rw [if_neg (by simp)])
    rw [hl3]
    by_cases c3:∀ g∈spl l,LT g
    ·have e3:((spl l).all fun g=>decide (LT g))=true:=by
      rw [List.all_eq_true]; intro g hg; exact decide_eq_true (c3 g hg)
     rw [e3,if_pos rfl]
     simp only [Option.bind_some]
     unfold Z0_J5
     have hl4:=loop_allI o.length (fun s:Int=>Z0_L4 form (l.length:Int) (spl l) s) (fun i=>i) (fun k=>decide (OL (spl l) o k)) (.inl ([],[],false)) (.inr ())
      (fun k hk=>by
       simp only [Z0_L4]
       rw [ho,if_pos (by simp; omega),any_s hgl (fun g hg=>by have:=spl_le hg; unfold big; omega) ho (by omega)]
       simp only [Option.bind_some,Z0_J7]
       rw [ho,if_pos (fun _=>by omega),if_pos (fun _=>by omega),sub0]
       have hbt:bt o (k:Int)=((ix o (k:Int)).toNat:Int):=rfl
       rw [hbt,has_s (by simp; unfold big; omega),w64k (by unfold big; omega)]
       by_cases q1:∃ g∈spl l,ix o (k:Int)∈g
       ·by_cases q2:ix o (k:Int)∈o.take k
        ·rw [decide_eq_true q1,decide_eq_true q2,decide_eq_false (fun z:OL (spl l) o k=>z.2 q2)]; rfl
        ·rw [decide_eq_true q1,decide_eq_false q2,show decide (OL (spl l) o k)=true from decide_eq_true ⟨q1,q2⟩]; rfl
       ·rw [decide_eq_false q1,decide_eq_false (fun z:OL (spl l) o k=>q1 z.1)]; rfl)
      (by simp only [Z0_L4]; rw [ho,if_neg (by simp)])
     rw [hl4]
     by_cases c4:∀ i∈List.range o.length,OL (spl l) o i
     ·have e4:((List.range o.length).all fun k=>decide (OL (spl l) o k))=true:=by
       rw [List.all_eq_true]; intro g hg; exact decide_eq_true (c4 g hg)
      rw [e4,if_pos rfl,if_pos ⟨c1,c2,c3,c4⟩]
      simp only [Option.bind_some,Z0_J8]
      rw [ho]
     ·have e4:((List.range o.length).all fun k=>decide (OL (spl l) o k))=false:=by
       rw [Bool.eq_false_iff]; intro z
       exact c4 fun i hi=>of_decide_eq_true (List.all_eq_true.1 z i hi)
      rw [e4,if_neg (by simp),if_neg (fun z=>c4 z.2.2.2)]; rfl
    ·have e3:((spl l).all fun g=>decide (LT g))=false:=by
      rw [Bool.eq_false_iff]; intro z
      exact c3 fun g hg=>of_decide_eq_true (List.all_eq_true.1 z g hg)
     rw [e3,if_neg (by simp),if_neg (fun z=>c3 z.2.2.1)]; rfl
   ·rw [decide_eq_false c2,if_pos (by simp),if_neg (fun z=>c2 z.2.1)]
  ·have d1:decide (((spl l).length:Int)>6)=true:=by simp; omega
   rw [d1,if_neg (fun z=>c1 z.1)]
   simp [gcall]
theorem cut_i {form:Str}(hb:form.length≤1048576):Z2x form str0=some (match cut form with | none=>(form,[],false) | some p=>(p.1,p.2,true)):=by
 unfold Z2x internal_stringslite_Cut internal_stringslite_Index
 rw [if_pos (by omega),index_cut]
 simp only [Option.bind_some]
 cases h:cut form with
 | none=>simp
 | some p =>
  obtain ⟨l,o⟩:=p
  obtain ⟨e1,e2⟩:=ce_some h
  have hl:form.length=l.length+2+o.length:=by rw [e2]; simp; omega
  have w2:w64 ((l.length:Int)+((str0.length:Nat):Int))=((l.length+2:Nat):Int):=by
   show w64 ((l.length:Int)+2)=_
   rw [w64_id (by omega) (by omega)]; omega
  simp only
  rw [if_pos (by simp),if_pos (by omega),w2,if_pos (by omega)]
  have a1:sub form 0 (l.length:Int)=l:=by rw [sub0,e2]; simp
  have a2:sub form ((l.length+2:Nat):Int) (form.length:Int)=o:=by
   rw [sub_all,Int.toNat_natCast,e2,List.drop_append]; simp
  rw [a1,a2]; rfl
theorem group_i {gs:List Str}{x:Nat}(hx:x<gs.length)(hg:(ix gs (x:Int)).length<big) :
  loopM (fun s:Int=>Zc_L2 gs (x:Int) s) 0=some (if ∀ c∈ix gs (x:Int),97≤c.toNat∧c.toNat≤122 then .inr () else .inl ([],[],false)):=by
 obtain ⟨g,hgg⟩:∃ g,g=ix gs (x:Int):=⟨_,rfl⟩
 have:=loop_all g (fun s:Int=>Zc_L2 gs (x:Int) s) (fun i=>i) (fun c=>decide (97≤c.toNat∧c.toNat≤122)) (.inl ([],[],false)) (.inr ())
  (fun k hk=>by
   have hbt:bt g (k:Int)=((ix g (k:Int)).toNat:Int):=rfl
   simp only [Zc_L2]
   rw [← hgg,if_pos (by simp; omega),if_pos (by omega),w64k (by rw [← hgg] at hg; omega)]
   by_cases q:97≤(ix g (k:Int)).toNat∧(ix g (k:Int)).toNat≤122
   ·rw [if_neg (by simp only [Bool.or_eq_true,decide_eq_true_eq,hbt]; omega),decide_eq_true q,if_pos rfl]
   ·rw [if_pos (by simp only [Bool.or_eq_true,decide_eq_true_eq,hbt]; omega),decide_eq_false q,if_neg (by simp)])
  (by simp only [Zc_L2]; rw [← hgg,if_neg (by simp)])
 rw [this,← hgg]
 by_cases c:∀ c∈g,97≤c.toNat∧c.toNat≤122
 ·rw [if_pos c,if_pos (by rw [List.all_eq_true]; intro x hx; exact decide_eq_true (c x hx))]
 ·rw [if_neg c,if_neg]
  intro z
  exact c fun x hx=>of_decide_eq_true (List.all_eq_true.1 z x hx)
theorem parts_i {form:Str}(hb:form.length≤1048576):Zc form=some (parts form):=by
 unfold Zc parts
 rw [cut_i hb]
 simp only [Option.bind_some]
 cases h:cut form with
 | none=>simp
 | some p =>
  obtain ⟨l,o⟩:=p
  obtain ⟨e1,e2⟩:=ce_some h
  have hl:form.length=l.length+2+o.length:=by rw [e2]; simp; omega
  simp only [Bool.not_true,Bool.false_or]
  by_cases c0:o.length≤6
  ·rw [if_neg (by simp; omega),split_i (by omega)]
   simp only [Option.bind_some]
   by_cases c1:(spl l).length≤6
   ·rw [if_neg (by simp; omega)]
    have hl1:=loop_all (spl l) (fun s:Int=>Zc_L1 (spl l) s) (fun i=>i) (fun g=>decide (LT g)) (.inl ([],[],false)) (.inr ())
     (fun k hk=>by
      have hg:=spl_le (ix_mem hk)
      simp only [Zc_L1]
      rw [if_pos (by simp; omega),if_pos (by omega)]
      by_cases q1:(ix (spl l) (k:Int)).length≤6
      ·rw [if_neg (by simp; omega),group_i hk (by unfold big; omega)]
       by_cases q2:∀ c∈ix (spl l) (k:Int),97≤c.toNat∧c.toNat≤122
       ·rw [if_pos q2,show decide (LT (ix (spl l) (k:Int)))=true from decide_eq_true ⟨q1,q2⟩,if_pos rfl]
        simp only [Option.bind_some,Zc_J2]
        rw [w64k (by unfold big; omega)]
       ·rw [if_neg q2,show decide (LT (ix (spl l) (k:Int)))=false from decide_eq_false (fun z=>q2 z.2),if_neg (by simp)]; rfl
      ·rw [if_pos (by simp; omega),show decide (LT (ix (spl l) (k:Int)))=false from decide_eq_false (fun z=>q1 z.1),if_neg (by simp)])
     (by simp only [Zc_L1]; rw [if_neg (by simp)])
    rw [hl1]
    by_cases c3:∀ g∈spl l,LT g
    ·have e3:((spl l).all fun g=>decide (LT g))=true:=by
      rw [List.all_eq_true]; intro g hg; exact decide_eq_true (c3 g hg)
     rw [e3,if_pos rfl]
     simp only [Option.bind_some]
     unfold Zc_J3
     have hl3:=loop_allI o.length (fun s:Int=>Zc_L3 (l,o,true) s) (fun i=>i) (fun k=>decide ((97≤(ix o (k:Int)).toNat∧(ix o (k:Int)).toNat≤122)∧OL (spl l) o k)) (.inl ([],[],false)) (.inr ())
      (fun k hk=>by
       have hbt:bt o (k:Int)=((ix o (k:Int)).toNat:Int):=rfl
       simp only [Zc_L3]
       rw [if_pos (by simp; omega),if_pos (by omega),w64k (by unfold big; omega),sub0]
       by_cases q:97≤(ix o (k:Int)).toNat∧(ix o (k:Int)).toNat≤122
       ·have b1:(decide (bt o (k:Int)<97)||decide (bt o (k:Int)>122))=false:=by
         rw [Bool.eq_false_iff]; simp only [ne_eq,Bool.or_eq_true,decide_eq_true_eq,hbt]; omega
        rw [b1,if_pos (fun _=>by omega)]
        have h44:ix o (k:Int)≠44:=by
         intro z; rw [z] at q; exact absurd q (by decide)
        obtain ⟨r1,r2,r3⟩:=ibyte_i (o.take k) (ix o (k:Int))
        obtain ⟨s1,s2,s3⟩:=ibyte_i l (ix o (k:Int))
        rw [hbt,r2,s2]
        simp only [gcall,Bool.not_false,cond_true,Option.bind_some,Bool.false_or]
        rw [← spl_mem l _ h44] at s3
        by_cases q2:ix o (k:Int)∈o.take k
        ·have:decide (r1≥0)=true:=by
          rw [decide_eq_true_eq]
          have:¬ r1<0:=fun z=>r3.1 z q2
          omega
         rw [this,decide_eq_false (fun z=>z.2.2 q2)]; rfl
        ·have:decide (r1≥0)=false:=by
          rw [decide_eq_false_iff_not]
          have:=r3.2 q2
          omega
         rw [this]
         simp only [Bool.not_false,cond_true,Option.bind_some,Bool.false_or]
         by_cases q3:∃ g∈spl l,ix o (k:Int)∈g
         ·have:decide (s1<0)=false:=by
           rw [decide_eq_false_iff_not]
           exact fun z=>s3.1 z q3
          rw [this,decide_eq_true ⟨q,q3,q2⟩]; rfl
         ·have:decide (s1<0)=true:=decide_eq_true (s3.2 q3)
          rw [this,decide_eq_false (fun z=>q3 z.2.1)]; rfl
       ·have b1:(decide (bt o (k:Int)<97)||decide (bt o (k:Int)>122))=true:=by
         simp only [Bool.or_eq_true,decide_eq_true_eq,hbt]; omega
        rw [b1,if_pos (fun z=>by cases z),decide_eq_false (fun z=>q z.1)]
        rfl)
      (by simp only [Zc_L3]; rw [if_neg (by simp)])
     rw [hl3]
     by_cases c4:PO (spl l) o
     ·have e4:((List.range o.length).all fun k=>decide ((97≤(ix o (k:Int)).toNat∧(ix o (k:Int)).toNat≤122)∧OL (spl l) o k))=true:=by
       rw [List.all_eq_true]; intro k hk
       exact decide_eq_true ⟨c4.2.1.2 _ (ix_mem (List.mem_range.1 hk)),c4.2.2.2 k hk⟩
      rw [e4,if_pos rfl,if_pos c4]; rfl
     ·have e4:((List.range o.length).all fun k=>decide ((97≤(ix o (k:Int)).toNat∧(ix o (k:Int)).toNat≤122)∧OL (spl l) o k))=false:=by
       rw [Bool.eq_false_iff]; intro z
       have z1:=List.all_eq_true.1 z
       refine c4 ⟨c1,⟨c0,fun c hc=>?_⟩,c3,fun i hi=>(of_decide_eq_true (z1 i hi)).2⟩
       obtain ⟨i,hi,rfl⟩:=List.mem_iff_getElem.1 hc
       have:=(of_decide_eq_true (z1 i (List.mem_range.2 hi))).1
       rwa [ix_at hi] at this
      rw [e4,if_neg (by simp),if_neg c4]; rfl
    ·have e3:((spl l).all fun g=>decide (LT g))=false:=by
      rw [Bool.eq_false_iff]; intro z
      exact c3 fun g hg=>of_decide_eq_true (List.all_eq_true.1 z g hg)
     rw [e3,if_neg (by simp),if_neg (fun z=>c3 z.2.2.1)]; rfl
   ·rw [if_pos (by simp; omega),if_neg (fun z=>c1 z.1)]
  ·rw [if_pos (by simp; omega),if_neg (fun z=>c0 z.2.1.1)]
def foN {S:Type}(st:S→Nat→Option S):Nat→S→Option S
 | 0,s=>some s
 | n+1,s=>(foN st n s).bind fun s'=>st s' n
theorem loop_foN {S T A B:Type}{f:T→Option (T⊕(A⊕B))}(st:S→Nat→Option S)(mk:S→Int→T)(fin:S→B)(Bad:A→Prop)(Inv:Nat→S→Prop)(n:Nat)
  (h1:∀ j s,j<n→Inv j s→(∃ s',st s j=some s'∧f (mk s (j:Int))=some (.inl (mk s' ((j+1:Nat):Int)))∧Inv (j+1) s')∨(st s j=none∧∃ b,f (mk s (j:Int))=some (.inr (.inl b))∧Bad b))
  (h2:∀ s,Inv n s→f (mk s (n:Int))=some (.inr (.inr (fin s)))) {s:S} (h0:Inv 0 s) :
  (∃ s',foN st n s=some s'∧loopM f (mk s 0)=some (.inr (fin s'))∧Inv n s')∨(foN st n s=none∧∃ b,loopM f (mk s 0)=some (.inl b)∧Bad b):=by
 have key:∀ j,j≤n→(∃ s',foN st j s=some s'∧loopM f (mk s 0)=loopM f (mk s' (j:Int))∧Inv j s')∨(foN st j s=none∧∃ b,loopM f (mk s 0)=some (.inl b)∧Bad b):=by
  intro j
  induction j with
  | zero=>intro _; exact .inl ⟨s,rfl,rfl,h0⟩
  | succ j ih =>
   intro hj
   rcases ih (by omega) with ⟨s',a1,a2,a3⟩|⟨a1,a2⟩
   ·rcases h1 j s' (by omega) a3 with ⟨s'',b1,b2,b3⟩|⟨b1,b,b2,b3⟩
    ·exact .inl ⟨s'',by rw [foN,a1]; exact b1,by rw [a2,loopM_next b2],b3⟩
    ·exact .inr ⟨by rw [foN,a1]; exact b1,b,by rw [a2,loopM_end b2],b3⟩
   ·exact .inr ⟨by rw [foN,a1]; rfl,a2⟩
 rcases key n (Nat.le_refl _) with ⟨s',a1,a2,a3⟩ | q
 ·exact .inl ⟨s',a1,by rw [a2,loopM_end (h2 s' a3)],a3⟩
 ·exact .inr q
def lk (lens:List Int)(c:UInt8):Int:=ix lens ((c.toNat:Int) - 97)
def lay1 (s:Str×List Int)(c:UInt8)(d:Int):Option (Str×List Int) :=
 if lk s.2 c≠0∧lk s.2 c≠d then none else some (if c∈s.1 then s.1 else s.1++[c],s.2.set (c.toNat - 97) d)
def layG (g:Str)(ds:List Int)(s:Str×List Int):Option (Str×List Int) :=
 if g.length=ds.length then foN (fun s k=>lay1 s (ix g (k:Int)) (ix ds (k:Int))) g.length s else none
def layA (gs:List Str)(dss:List (List Int))(s:Str×List Int):Option (Str×List Int):=foN (fun s k=>layG (ix gs (k:Int)) (ix dss (k:Int)) s) gs.length s
end Go.Proofs.YtmpnollfdpdipaaGreat
