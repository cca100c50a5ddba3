import Derived.Test.YthelanpdjajnbaaGreatBG1
import Derived.KernelRfl
set_option linter.unusedVariables false
set_option linter.unusedSimpArgs false
namespace Go.Proofs.YthelanpdjajnbaaGreat
open Go Go.Pg
theorem xG {ds is:List Int}{j:Nat}{m x:Int}(a:j<ds.length)(h:IV (ds.set j m) is)(b:0≤x)(h1:x<ix ds (j:Int)):IV ds (is.set j x):=by
 induction ds generalizing is j with
 | nil=>simp at a
 | cons d ds ih=>cases j with
  | zero=>cases is with
   | nil=>exact h.elim
   | cons i is=>exact ⟨⟨b,h1⟩,h.2⟩
  | succ j=>cases is with
   | nil=>exact h.elim
   | cons i is=>rw [dL] at h1; exact ⟨h.1,ih (by simpa using a) h.2 h1⟩
theorem mq {ds is:List Int}{j:Nat}{m x:Int}(a:j<ds.length)(h:IV ds is)(b:0≤x)(h1:x<m):IV (ds.set j m) (is.set j x):=by
 induction ds generalizing is j with
 | nil=>simp at a
 | cons d ds ih=>cases j with
  | zero=>cases is with
   | nil=>exact h.elim
   | cons i is=>exact ⟨⟨b,h1⟩,h.2⟩
  | succ j=>cases is with
   | nil=>exact h.elim
   | cons i is=>exact ⟨h.1,ih (by simpa using a) h.2⟩
theorem ra {ds is:List Int}(h:IV ds is)(k:Nat):IV (ds.take k) (is.take k):=by
 induction ds generalizing is k with
 | nil=>cases is with
  | nil=>simp [IV]
  | cons=>exact h.elim
 | cons d ds ih=>cases is with
  | nil=>exact h.elim
  | cons i is=>cases k with
   | zero=>simp [IV]
   | succ k=>exact ⟨h.1,ih h.2 k⟩
def mX (ds:List Int)(a:Int)(xs:List Int):Prop:=0≤a∧a<(ds.length:Int)∧xs≠[]∧(∀ x∈xs,0≤x∧x<ix ds a)∧eK (ds.set a.toNat (xs.length:Int))
instance (ds:List Int)(a:Int)(xs:List Int):Decidable (mX ds a xs):=by unfold mX; infer_instance
def ma (ds:List Int)(a:Int)(xs:List Int)(n:Int):Prop:=0≤a∧a<(ds.length:Int)∧(xs.length:Int)=ix ds a∧(∀ x∈xs,0≤x∧x<n)∧eK (ds.set a.toNat n)
instance (ds:List Int)(a:Int)(xs:List Int)(n:Int):Decidable (ma ds a xs n):=by unfold ma; infer_instance
def jX (ds:List Int)(a b f g:Int):Int:=b+ix ds a+(ix ds a - 1)*g+f
def mY (ds:List Int)(a b f g:Int):Prop:=0≤a∧a<(ds.length:Int)∧0≤b∧b≤4096∧0≤f∧f≤4096∧0≤g∧g≤4096∧eK (ds.set a.toNat (jX ds a b f g))
instance (ds:List Int)(a b f g:Int):Decidable (mY ds a b f g):=by unfold mY; infer_instance
theorem l7 {t:Tensor}(h:TT t)(a:Int):Z1g t a=some (decide (0≤a∧a<(t.Dims.length:Int))):=by
 unfold Z1g
 rw [pS h]
 simp only [Option.bind_some,Bool.true_and]
 congr 1
 rw [Bool.eq_iff_iff]
 simp
theorem jM {xs:List Int}(h:xs.length≤6){j:Nat}(a:j<xs.length)(x:Int):Z0h xs (j:Int) x=some (xs.set j x):=by
 unfold Z0h
 rw [fL (by omega)]
 simp only [Option.bind_some]
 rw [if_pos (by omega),Int.toNat_natCast]
theorem ke {xs:List Int}(b:xs.length<cI)(n:Int):Z0i xs n=some (decide (∀ x∈xs,0≤x∧x<n)):=by
 unfold Z0i
 have:=eW xs (fun s:Int=>Z0i_L1 xs n s) (fun i=>i) (fun x=>!(decide (x<0)||decide (x≥n))) (.inl false) (.inr ())
  (fun k g=>by
   simp only [Z0i_L1]
   rw [if_pos (by simp; omega),if_pos (by omega),cH (by omega)]
   cases (decide (ix xs (k:Int)<0)||decide (ix xs (k:Int)≥n))<;>rfl)
  (by simp only [Z0i_L1]; rw [if_neg (by simp)])
 rw [this]
 have e:(xs.all fun x=>!(decide (x<0)||decide (x≥n)))=decide (∀ x∈xs,0≤x∧x<n):=by
  rw [Bool.eq_iff_iff]
  simp only [List.all_eq_true,decide_eq_true_eq,Bool.not_eq_true',Bool.or_eq_false_iff,decide_eq_false_iff_not]
  exact ⟨fun h x a=>by have:=h x a; omega,fun h x a=>by have:=h x a; omega⟩
 rw [e]
 by_cases c:∀ x∈xs,0≤x∧x<n
 ·rw [decide_eq_true c]; rfl
 ·rw [decide_eq_false c]; rfl
theorem tD {t:Tensor}(h:TT t){a:Int}{xs:List Int}(L:xs.length<cI) :
  (mX t.Dims a xs→∃ d,Z0s t a xs=some ⟨t.Dims.set a.toNat (xs.length:Int),d⟩∧TOk (t.Dims.set a.toNat (xs.length:Int)) d)∧(¬ mX t.Dims a xs→Z0s t a xs=some ⟨[],[]⟩):=by
 have G:=kF h
 unfold Z0s
 rw [l7 h]
 simp only [Option.bind_some]
 by_cases g:(0≤a∧a<(t.Dims.length:Int))∧xs≠[]
 ·obtain ⟨g1,D⟩:=g
  have U:xs.length≠0:=fun e=>D (List.eq_nil_of_length_eq_zero e)
  obtain ⟨j,rfl⟩:=Int.eq_ofNat_of_zero_le g1.1
  have l:j<t.Dims.length:=by omega
  have B:(!decide (0≤(j:Int)∧(j:Int)<(t.Dims.length:Int))||(xs.length:Int)==0)=false:=by rw [decide_eq_true g1]; simp [D]
  rw [if_pos (fun _=>g1),B]
  simp only [bR,Bool.not_false,cond_true,Bool.false_or]
  rw [ke L]
  simp only [Option.bind_some,Int.toNat_natCast]
  by_cases g4:∀ x∈xs,0≤x∧x<ix t.Dims (j:Int)
  ·rw [decide_eq_true g4,if_neg (by simp),jM G.2 l]
   simp only [Option.bind_some]
   rw [gO (by simp [cI]; omega)]
   by_cases g5:eK (t.Dims.set j (xs.length:Int))
   ·simp only [decide_eq_true g5,Option.bind_some,Bool.not_true,Bool.false_eq_true,if_false]
    refine ⟨fun _=>?_,fun q=>absurd ⟨g1.1,g1.2,D,g4,by simpa using g5⟩ q⟩
    rw [l2 g5]
    simp only [Option.bind_some]
    have Z:=g5.2.2
    obtain ⟨r,I,J⟩:=l6 (f:=fun s:List Int×Int=>Z0s_L1 t (j:Int) xs (t.Dims.set j (xs.length:Int)) ⟨t.Dims.set j (xs.length:Int),List.replicate (pr (t.Dims.set j (xs.length:Int))).toNat 0⟩ s.1 s.2) (Post:=fun r=>RG (pr (t.Dims.set j (xs.length:Int))).toNat r) (pr (t.Dims.set j (xs.length:Int))).toNat (pr (t.Dims.set j (xs.length:Int))).toNat
     (fun k Y x E=>by
      have F:=hR g5.2.1 (k:Int)
      have b:=jK (t.Dims.set j (xs.length:Int)) (k:Int)
      have i:=F.mem (j:=j) (by rw [b]; simpa using l)
      rw [xA l] at i
      obtain ⟨q,M⟩:=Int.eq_ofNat_of_zero_le i.1
      have u:=g4 _ (bH (xs:=xs) (k:=q) (by omega))
      have m:=xG l F u.1 u.2
      obtain ⟨y,O,T⟩:=nt h m
      simp only [Z0s_L1]
      rw [if_pos (by simp; omega),jL g5 (by omega) (by omega)]
      simp only [Option.bind_some]
      rw [if_pos (by rw [b]; simp; omega),if_pos (by omega),jM (by rw [b]; simpa using G.2) (by rw [b]; simpa using l)]
      simp only [Option.bind_some,M,O]
      rw [if_pos (by simp; omega),cH (by unfold cI; omega)]
      exact ⟨_,rfl,E.set (h.x y T) _⟩)
     (fun x E=>by simp only [Z0s_L1]; rw [if_neg (by simp)]; exact ⟨x,rfl,E⟩) (RG.rep _)
    rw [I]
    exact ⟨r,rfl,hT g5 J⟩
   ·simp only [decide_eq_false g5,Option.bind_some,Bool.not_false,if_true]
    exact ⟨fun q=>absurd (by simpa using q.2.2.2.2) g5,fun _=>by trivial⟩
  ·rw [decide_eq_false g4,if_pos (by simp)]
   exact ⟨fun q=>absurd q.2.2.2.1 g4,fun _=>by trivial⟩
 ·have B:(!decide (0≤a∧a<(t.Dims.length:Int))||(xs.length:Int)==0)=true:=by
   by_cases q:0≤a∧a<(t.Dims.length:Int)
   ·have:xs=[]:=by
     refine Classical.byContradiction fun z=>g ⟨q,z⟩
    subst this; simp
   ·rw [decide_eq_false q]; rfl
  rw [if_pos (fun q=>by rw [B] at q; cases q),B]
  simp only [bR,Bool.not_true,cond_false,Option.bind_some,Bool.true_or,if_true]
  exact ⟨fun q=>absurd ⟨⟨q.1,q.2.1⟩,q.2.2.1⟩ g,fun _=>by trivial⟩
theorem rN {t:Tensor}(h:TT t){a n:Int}{xs:List Int}(G:xs.length<cI) :
  (ma t.Dims a xs n→∃ d,Z0u t a xs n=some ⟨t.Dims.set a.toNat n,d⟩∧TOk (t.Dims.set a.toNat n) d)∧(¬ ma t.Dims a xs n→Z0u t a xs n=some ⟨[],[]⟩):=by
 have J:=kF h
 unfold Z0u
 rw [l7 h]
 simp only [Option.bind_some]
 by_cases g1:0≤a∧a<(t.Dims.length:Int)
 ·obtain ⟨j,rfl⟩:=Int.eq_ofNat_of_zero_le g1.1
  have D:j<t.Dims.length:=by omega
  rw [decide_eq_true g1,if_pos (fun _=>g1)]
  simp only [bR,Bool.not_true,Bool.false_or,Int.toNat_natCast]
  by_cases g2:(xs.length:Int)=ix t.Dims (j:Int)
  ·have i:((xs.length:Int) != ix t.Dims (j:Int))=false:=by simp [g2]
   rw [i]
   simp only [Bool.not_false,cond_true,Bool.false_or]
   rw [ke G]
   simp only [Option.bind_some]
   by_cases g4:∀ x∈xs,0≤x∧x<n
   ·rw [decide_eq_true g4,if_neg (by simp),jM J.2 D]
    simp only [Option.bind_some]
    rw [gO (by simp [cI]; omega)]
    by_cases g5:eK (t.Dims.set j n)
    ·simp only [decide_eq_true g5,Option.bind_some,Bool.not_true,Bool.false_eq_true,if_false]
     refine ⟨fun _=>?_,fun q=>absurd ⟨g1.1,g1.2,g2,g4,by simpa using g5⟩ q⟩
     rw [l2 g5]
     simp only [Option.bind_some]
     have Y:=h.d.2.2
     obtain ⟨r,E,F⟩:=l6 (f:=fun s:List Int×Int=>Z0u_L1 t (j:Int) xs ⟨t.Dims.set j n,List.replicate (pr (t.Dims.set j n)).toNat 0⟩ s.1 s.2) (Post:=fun r=>RG (pr (t.Dims.set j n)).toNat r) (pr (t.Dims.set j n)).toNat t.Data.length
      (fun k U x g=>by
       have B:=hR h.d.2.1 (k:Int)
       have I:=jK t.Dims (k:Int)
       have u:=B.mem (j:=j) (by omega)
       obtain ⟨q,L⟩:=Int.eq_ofNat_of_zero_le u.1
       have e:=g4 _ (bH (xs:=xs) (k:=q) (by omega))
       have b:=mq (m:=n) D B e.1 e.2
       have tk:TT ⟨t.Dims.set j n,x⟩:=hT g5 g
       obtain ⟨y,T,Z⟩:=nt (t:=⟨t.Dims.set j n,x⟩) tk b
       obtain ⟨m,M,O⟩:=nY y (ix t.Data (k:Int))
       simp only [Z0u_L1]
       rw [if_pos (by simp; omega),jL h.d (by omega) (by omega)]
       simp only [Option.bind_some]
       rw [if_pos (by omega),if_pos (by omega),jM (by omega) (by omega)]
       simp only [Option.bind_some,L,T]
       rw [if_pos (by omega),M]
       simp only [Option.bind_some]
       rw [tn (t:=⟨t.Dims.set j n,x⟩) g5 tk.l b,cH (by unfold cI; omega)]
       exact ⟨_,rfl,g.set O _⟩)
      (fun x g=>by simp only [Z0u_L1]; rw [if_neg (by simp)]; exact ⟨x,rfl,g⟩) (RG.rep _)
     rw [E]
     exact ⟨r,rfl,hT g5 F⟩
    ·simp only [decide_eq_false g5,Option.bind_some,Bool.not_false,if_true]
     exact ⟨fun q=>absurd (by simpa using q.2.2.2.2) g5,fun _=>by trivial⟩
   ·rw [decide_eq_false g4,if_pos (by simp)]
    exact ⟨fun q=>absurd q.2.2.2.1 g4,fun _=>by trivial⟩
  ·have i:((xs.length:Int) != ix t.Dims (j:Int))=true:=by simp [g2]
   rw [i]
   simp only [Bool.not_true,cond_false,Option.bind_some,Bool.true_or,if_true]
   exact ⟨fun q=>absurd q.2.2.1 g2,fun _=>by trivial⟩
 ·rw [decide_eq_false g1,if_pos (fun q=>by cases q)]
  simp only [bR,Bool.not_false,Bool.true_or,Bool.not_true,cond_false,Option.bind_some,if_true]
  exact ⟨fun q=>absurd ⟨q.1,q.2.1⟩ g1,fun _=>by trivial⟩
theorem Ar {t:Tensor}(h:TT t){a b f g:Int} :
  (mY t.Dims a b f g→∃ d,Z0t t a b f g=some ⟨t.Dims.set a.toNat (jX t.Dims a b f g),d⟩∧TOk (t.Dims.set a.toNat (jX t.Dims a b f g)) d)∧(¬ mY t.Dims a b f g→Z0t t a b f g=some ⟨[],[]⟩):=by
 have hl:=kF h
 unfold Z0t
 rw [l7 h]
 simp only [Option.bind_some]
 by_cases c:(0≤a∧a<(t.Dims.length:Int))∧0≤b∧b≤4096∧0≤f∧f≤4096∧0≤g∧g≤4096
 ·obtain ⟨g1,I,J,L,M,i,F⟩:=c
  obtain ⟨j,rfl⟩:=Int.eq_ofNat_of_zero_le g1.1
  have E:j<t.Dims.length:=by omega
  have hm:=h.d.2.mem (bH E)
  have k0:0≤(ix t.Dims (j:Int) - 1)*g:=Int.mul_nonneg (by omega) i
  have k1:=Int.mul_le_mul (show ix t.Dims (j:Int) - 1≤4096 by omega) F i (show (0:Int)≤4096 by omega)
  have e:aK (aK (aK (b+ix t.Dims (j:Int))+aK (aK (ix t.Dims (j:Int) - 1)*g))+f)=jX t.Dims (j:Int) b f g:=by
   rw [bD (n:=b+ix t.Dims (j:Int)) (by omega) (by omega),bD (n:=ix t.Dims (j:Int) - 1) (by omega) (by omega),bD (n:=(ix t.Dims (j:Int) - 1)*g) (by omega) (by omega),bD (n:=b+ix t.Dims (j:Int)+(ix t.Dims (j:Int) - 1)*g) (by omega) (by omega),bD (by omega) (by omega)]
   rfl
  rw [if_neg (by simp; omega),if_pos g1,e,jM hl.2 E]
  simp only [Option.bind_some,Int.toNat_natCast]
  rw [gO (by simp [cI]; omega)]
  by_cases g5:eK (t.Dims.set j (jX t.Dims (j:Int) b f g))
  ·simp only [decide_eq_true g5,Option.bind_some,Bool.not_true,Bool.false_eq_true,if_false]
   refine ⟨fun _=>?_,fun q=>absurd ⟨g1.1,g1.2,I,J,L,M,i,F,by simpa using g5⟩ q⟩
   rw [l2 g5]
   simp only [Option.bind_some]
   have hp:=h.d.2.2
   obtain ⟨r,O,T⟩:=l6 (f:=fun s:List Int×Int=>Z0t_L1 t (j:Int) b g ⟨t.Dims.set j (jX t.Dims (j:Int) b f g),List.replicate (pr (t.Dims.set j (jX t.Dims (j:Int) b f g))).toNat 0⟩ s.1 s.2) (Post:=fun r=>RG (pr (t.Dims.set j (jX t.Dims (j:Int) b f g))).toNat r) (pr (t.Dims.set j (jX t.Dims (j:Int) b f g))).toNat t.Data.length
    (fun k Z x B=>by
     have G:=hR h.d.2.1 (k:Int)
     have Y:=jK t.Dims (k:Int)
     have D:=G.mem (j:=j) (by omega)
     have z0:0≤ix (hO t.Dims (k:Int)) (j:Int)*g:=Int.mul_nonneg D.1 i
     have z1:ix (hO t.Dims (k:Int)) (j:Int)*g≤(ix t.Dims (j:Int) - 1)*g:=Int.mul_le_mul_of_nonneg_right (by omega) i
     have U:aK (b+aK (ix (hO t.Dims (k:Int)) (j:Int)*aK (g+1)))=b+(ix (hO t.Dims (k:Int)) (j:Int)*g+ix (hO t.Dims (k:Int)) (j:Int)):=by
      rw [bD (n:=g+1) (by omega) (by omega),Int.mul_add,Int.mul_one,bD (n:=ix (hO t.Dims (k:Int)) (j:Int)*g+ix (hO t.Dims (k:Int)) (j:Int)) (by omega) (by omega),bD (by omega) (by omega)]
     have u:=mq (m:=jX t.Dims (j:Int) b f g) (x:=b+(ix (hO t.Dims (k:Int)) (j:Int)*g+ix (hO t.Dims (k:Int)) (j:Int))) E G (by omega) (by unfold jX; omega)
     have tk:TT ⟨t.Dims.set j (jX t.Dims (j:Int) b f g),x⟩:=hT g5 B
     simp only [Z0t_L1]
     rw [if_pos (by simp; omega),jL h.d (by omega) (by omega)]
     simp only [Option.bind_some]
     rw [if_pos (by omega),U,jM (by omega) (by omega)]
     simp only [Option.bind_some]
     rw [if_pos (by omega),tn (t:=⟨t.Dims.set j (jX t.Dims (j:Int) b f g),x⟩) g5 tk.l u,cH (by unfold cI; omega)]
     exact ⟨_,rfl,B.set (h.x _ (bH Z)) _⟩)
    (fun x B=>by simp only [Z0t_L1]; rw [if_neg (by simp)]; exact ⟨x,rfl,B⟩) (RG.rep _)
   rw [O]
   exact ⟨r,rfl,hT g5 T⟩
  ·simp only [decide_eq_false g5,Option.bind_some,Bool.not_false,if_true]
   exact ⟨fun q=>absurd (by simpa using q.2.2.2.2.2.2.2.2) g5,fun _=>by trivial⟩
 ·rw [if_pos (by simp only [Bool.or_eq_true,Bool.not_eq_true',decide_eq_true_eq,decide_eq_false_iff_not]; omega)]
  exact ⟨fun q=>absurd ⟨⟨q.1,q.2.1⟩,q.2.2.1,q.2.2.2.1,q.2.2.2.2.1,q.2.2.2.2.2.1,q.2.2.2.2.2.2.1,q.2.2.2.2.2.2.2.1⟩ c,fun _=>by trivial⟩
def mc (ds:List Int)(a st n:Int):Prop:=0≤a∧a<(ds.length:Int)∧a≠(ds.length:Int) - 1∧1≤st∧1≤n∧n≤4096∧ix ds ((ds.length:Int) - 1)≤n∧(n - ix ds ((ds.length:Int) - 1)) / st+1=ix ds a∧eK ((ds.set a.toNat n).take (ds.length - 1))
instance (ds:List Int)(a st n:Int):Decidable (mc ds a st n):=by unfold mc; infer_instance
theorem l8 {α:Type}(xs:List α)(k:Nat):sub xs 0 (k:Int)=xs.take k:=by simp [sub]
theorem xH {t:Tensor}(h:TT t){a st n:Int} :
  (mc t.Dims a st n→∃ d,Z0r t a st n=some ⟨(t.Dims.set a.toNat n).take (t.Dims.length - 1),d⟩∧TOk ((t.Dims.set a.toNat n).take (t.Dims.length - 1)) d)∧(¬ mc t.Dims a st n→Z0r t a st n=some ⟨[],[]⟩):=by
 have Y:=kF h
 have w1:aK ((t.Dims.length:Int) - 1)=(t.Dims.length:Int) - 1:=bD (by omega) (by omega)
 unfold Z0r
 rw [l7 h,w1]
 simp only [Option.bind_some]
 by_cases c:(0≤a∧a<(t.Dims.length:Int))∧a≠(t.Dims.length:Int) - 1∧1≤st∧1≤n∧n≤4096
 ·obtain ⟨g1,F,I,J,L⟩:=c
  obtain ⟨j,rfl⟩:=Int.eq_ofNat_of_zero_le g1.1
  have D:j<t.Dims.length:=by omega
  obtain ⟨l,E⟩:∃ l,l=t.Dims.length - 1:=⟨_,rfl⟩
  have g:(t.Dims.length:Int) - 1=(l:Int):=by omega
  have w2:aK (l:Int)=(l:Int):=bD (by omega) (by omega)
  have hm:=h.d.2.mem (bH D)
  have Z:=h.d.2.mem (bH (xs:=t.Dims) (k:=l) (by omega))
  rw [g] at F ⊢
  rw [if_neg (by simp; omega),if_pos (by omega),if_pos (fun _=>by omega),if_pos (fun _=>g1)]
  unfold mc
  rw [g,← E]
  by_cases c5:ix t.Dims (l:Int)≤n
  ·have q0:0≤(n - ix t.Dims (l:Int)) / st:=Int.ediv_nonneg (by omega) (by omega)
   have q1:(n - ix t.Dims (l:Int)) / st≤n - ix t.Dims (l:Int):=Int.ediv_le_self _ (by omega)
   have e:aK (aK ((aK (n - ix t.Dims (l:Int))).tdiv st)+1)=(n - ix t.Dims (l:Int)) / st+1:=by
    rw [bD (n:=n - ix t.Dims (l:Int)) (by omega) (by omega),Int.tdiv_eq_ediv_of_nonneg (by omega),bD (n:=(n - ix t.Dims (l:Int)) / st) (by omega) (by omega),bD (by omega) (by omega)]
   rw [e]
   by_cases c6:(n - ix t.Dims (l:Int)) / st+1=ix t.Dims (j:Int)
   ·rw [if_neg (by simp [c6]; omega),jM Y.2 D]
    simp only [Option.bind_some,Int.toNat_natCast]
    rw [if_pos (by simp; omega),l8,gO (by simp [cI]; omega)]
    by_cases g5:eK ((t.Dims.set j n).take l)
    ·simp only [decide_eq_true g5,Option.bind_some,Bool.not_true,Bool.false_eq_true,if_false]
     refine ⟨fun _=>?_,fun q=>absurd ⟨g1.1,g1.2,F,I,J,L,c5,c6,g5⟩ q⟩
     rw [l2 g5]
     simp only [Option.bind_some]
     have hp:=h.d.2.2
     have q3:=Int.ediv_mul_le (n - ix t.Dims (l:Int)) (show st≠0 by omega)
     obtain ⟨r,M,O⟩:=l6 (f:=fun s:List Int×Int=>Z0r_L1 t (j:Int) st ⟨(t.Dims.set j n).take l,List.replicate (pr ((t.Dims.set j n).take l)).toNat 0⟩ s.1 s.2) (Post:=fun r=>RG (pr ((t.Dims.set j n).take l)).toNat r) (pr ((t.Dims.set j n).take l)).toNat t.Data.length
      (fun k hk x i=>by
       have u:=hR h.d.2.1 (k:Int)
       have U:=jK t.Dims (k:Int)
       have B:=u.mem (j:=j) (by omega)
       have G:=u.mem (j:=l) (by omega)
       have z0:0≤ix (hO t.Dims (k:Int)) (j:Int)*st:=Int.mul_nonneg B.1 (by omega)
       have z1:ix (hO t.Dims (k:Int)) (j:Int)*st≤(n - ix t.Dims (l:Int)) / st*st:=Int.mul_le_mul_of_nonneg_right (by omega) (by omega)
       have T:aK (aK (ix (hO t.Dims (k:Int)) (j:Int)*st)+ix (hO t.Dims (k:Int)) (l:Int))=ix (hO t.Dims (k:Int)) (j:Int)*st+ix (hO t.Dims (k:Int)) (l:Int):=by
        rw [bD (n:=ix (hO t.Dims (k:Int)) (j:Int)*st) (by omega) (by omega),bD (by omega) (by omega)]
       have b:=ra (mq (m:=n) (x:=ix (hO t.Dims (k:Int)) (j:Int)*st+ix (hO t.Dims (k:Int)) (l:Int)) D u (by omega) (by omega)) l
       have tk:TT ⟨(t.Dims.set j n).take l,x⟩:=hT g5 i
       obtain ⟨y,y1,y2⟩:=nt (t:=⟨(t.Dims.set j n).take l,x⟩) tk b
       obtain ⟨m,m1,m2⟩:=nY y (ix t.Data (k:Int))
       simp only [Z0r_L1,g,w2]
       rw [if_pos (by simp; omega),jL h.d (by omega) (by omega)]
       simp only [Option.bind_some]
       rw [if_pos (by omega),if_pos (by omega),T,jM (by omega) (by omega)]
       simp only [Option.bind_some]
       rw [if_pos (by simp; omega),l8,y1]
       simp only [Option.bind_some]
       rw [if_pos (by omega),m1]
       simp only [Option.bind_some]
       rw [tn (t:=⟨(t.Dims.set j n).take l,x⟩) g5 tk.l b,cH (by unfold cI; omega)]
       exact ⟨_,rfl,i.set m2 _⟩)
      (fun x i=>by simp only [Z0r_L1]; rw [if_neg (by simp)]; exact ⟨x,rfl,i⟩) (RG.rep _)
     rw [M]
     exact ⟨r,rfl,hT g5 O⟩
    ·simp only [decide_eq_false g5,Option.bind_some,Bool.not_false,if_true]
     exact ⟨fun q=>absurd q.2.2.2.2.2.2.2.2 g5,fun _=>by trivial⟩
   ·rw [if_pos (by simp [c6])]
    exact ⟨fun q=>absurd q.2.2.2.2.2.2.2.1 c6,fun _=>by trivial⟩
  ·rw [if_pos (by simp; omega)]
   exact ⟨fun q=>absurd q.2.2.2.2.2.2.1 c5,fun _=>by trivial⟩
 ·rw [if_pos (by simp only [Bool.or_eq_true,Bool.not_eq_true',decide_eq_true_eq,decide_eq_false_iff_not,beq_iff_eq]; omega)]
  exact ⟨fun q=>absurd ⟨⟨q.1,q.2.1⟩,q.2.2.1,q.2.2.2.1,q.2.2.2.2.1,q.2.2.2.2.2.1⟩ c,fun _=>by trivial⟩
theorem xI {t:Tensor}(h:TT t){j:Nat}(q:j<t.Dims.length){is:List Int}(u:IV t.Dims is):∃ xs,Z0x t (j:Int) is=some xs∧xs.length≤4096:=by
 have I:=kF h
 have E:=u.len
 have J:=h.d.2.mem (bH q)
 unfold Z0x
 obtain ⟨r,B,D⟩:=iK (f:=fun s:List Int×Int=>Z0x_L1 t (j:Int) is s.1 s.2) (fun k s=>s.2=(k:Int)∧s.1.length=k) (ix t.Dims (j:Int)).toNat (Post:=fun r=>r.length≤4096)
  (fun k s G l=>by
   obtain ⟨x,i⟩:=s
   obtain ⟨a,g⟩:=l
   simp only at a g
   subst a
   have b:IV t.Dims (is.set j (k:Int)):=by
    have:=mq (m:=ix t.Dims (j:Int)) (x:=(k:Int)) q u (by omega) (by omega)
    have e:t.Dims.set j (ix t.Dims (j:Int))=t.Dims:=by rw [cD q]; simp
    rw [e] at this; exact this
   obtain ⟨y,F,_⟩:=nt h b
   simp only [Z0x_L1]
   rw [if_pos (by omega),if_pos (by simp; omega),jM (by omega) (by omega)]
   simp only [Option.bind_some,F]
   rw [if_pos (by simp; omega),cH (by unfold cI; omega)]
   exact ⟨_,rfl,rfl,by simp [g]⟩)
  (fun s l=>by
   obtain ⟨x,i⟩:=s
   obtain ⟨a,g⟩:=l
   simp only at a g
   subst a
   simp only [Z0x_L1]
   rw [if_pos (by omega),if_neg (by simp; omega)]
   exact ⟨x,rfl,by omega⟩) (s:=([],0)) ⟨rfl,rfl⟩
 rw [B]
 exact ⟨r,rfl,D⟩
theorem As {t:Tensor}(h:TT t){a:Int}:(0≤a∧a<(t.Dims.length:Int)→∃ d,Zc t a=some ⟨t.Dims,d⟩∧TOk t.Dims d)∧(¬ (0≤a∧a<(t.Dims.length:Int))→Zc t a=some ⟨[],[]⟩):=by
 have M:=kF h
 unfold Zc
 rw [l7 h]
 simp only [Option.bind_some]
 by_cases g1:0≤a∧a<(t.Dims.length:Int)
 ·obtain ⟨j,rfl⟩:=Int.eq_ofNat_of_zero_le g1.1
  have F:j<t.Dims.length:=by omega
  rw [decide_eq_true g1,if_neg (by simp),l2 h.d]
  simp only [Option.bind_some]
  refine ⟨fun _=>?_,fun q=>absurd g1 q⟩
  have T:=h.d.2.2
  have O:(pr t.Dims).toNat=t.Data.length:=(p7 h).1.symm
  obtain ⟨r,m,B⟩:=l6 (f:=fun s:List Int×Int=>Zc_L1 t (j:Int) ⟨t.Dims,List.replicate (pr t.Dims).toNat 0⟩ s.1 s.2) (Post:=fun r=>RG (pr t.Dims).toNat r) (pr t.Dims).toNat t.Data.length
   (fun k L x g=>by
    have D:=hR h.d.2.1 (k:Int)
    have E:=jK t.Dims (k:Int)
    obtain ⟨xs,J,Y⟩:=xI h F D
    simp only [Zc_L1]
    rw [if_pos (by simp; omega),jL h.d (by omega) (by omega)]
    simp only [Option.bind_some,J]
    obtain ⟨b,l,_⟩:=iK (f:=fun s:Bool×Int=>Zc_L2 t (j:Int) (k:Int) (hO t.Dims (k:Int)) xs s.1 s.2) (fun q s=>s.2=(q:Int)) xs.length (Post:=fun _=>True)
     (fun q s U e=>by
      obtain ⟨b,i⟩:=s
      simp only at e
      subst e
      obtain ⟨u,G⟩:=kc (ix xs (q:Int))
      obtain ⟨v,I⟩:=kc (ix t.Data (k:Int))
      simp only [Zc_L2,Zc_J6]
      rw [if_pos (by simp; omega),if_pos (by omega),G]
      simp only [Option.bind_some]
      rw [if_pos (by omega),I]
      simp only [Option.bind_some]
      rw [if_pos (fun _ _=>by omega),cH (by unfold cI; omega)]
      split<;>exact ⟨_,rfl,rfl⟩)
     (fun s e=>by
      obtain ⟨b,i⟩:=s
      simp only at e
      subst e
      simp only [Zc_L2]
      rw [if_neg (by simp)]
      exact ⟨b,rfl,trivial⟩) (s:=(true,0)) rfl
    rw [l]
    simp only [Option.bind_some,Zc_J7,Zc_J8]
    rw [cH (by unfold cI; omega)]
    split
    ·rw [if_pos (by simp; omega)]
     exact ⟨_,rfl,g.set (by decide) _⟩
    ·exact ⟨_,rfl,g⟩)
   (fun x g=>by simp only [Zc_L1]; rw [if_neg (by simp)]; exact ⟨x,rfl,g⟩) (RG.rep _)
  rw [m]
  exact ⟨r,rfl,hT h.d B⟩
 ·rw [decide_eq_false g1,if_pos (by simp)]
  exact ⟨fun q=>absurd q g1,fun _=>by trivial⟩
theorem lZ {α R:Type}{f:List α×Int→Option ((List α×Int)⊕R)}(n w a:Nat){Post:R→Prop}(x:List α)(m:∀ j:Nat,j<n→∀ y,y.length+w≤a→∃ g,f (y,(j:Int))=some (.inl (g,((j+1:Nat):Int)))∧g.length≤y.length+w)
  (l:∀ y,y.length≤x.length+n*w→∃ r,f (y,(n:Int))=some (.inr r)∧Post r) (u:x.length+n*w≤a):∃ r,aW f (x,0)=some r∧Post r :=
 iK (f:=f) (fun j s=>s.2=(j:Int)∧s.1.length≤x.length+j*w) n (fun j s h b=>by
  obtain ⟨y,i⟩:=s
  obtain ⟨rfl,e⟩:=b
  have h1:(j+1)*w≤n*w:=Nat.mul_le_mul_right w h
  rw [Nat.succ_mul] at h1
  simp only at e
  obtain ⟨g,g1,q⟩:=m j h y (by omega)
  exact ⟨_,g1,rfl,by rw [Nat.succ_mul]; simp only; omega⟩) (fun s b=>by
  obtain ⟨y,i⟩:=s
  obtain ⟨rfl,e⟩:=b
  exact l y e) (s:=(x,0)) ⟨rfl,by simp⟩
theorem n' {xs:List Int}(h:xs.length≤6){j:Nat}(a:j<xs.length)(x:Int):Z1k xs (j:Int) x=some (xs.set j x):=by
 unfold Z1k
 rw [eX (by omega)]
 simp only [Option.bind_some]
 rw [if_pos (by omega),Int.toNat_natCast]
theorem rb {ds:List Int}(h:eK ds){j:Nat}(a:j<ds.length):Z25 ds (j:Int)=some (pr (ds.take j),ix ds (j:Int),pr (ds.drop (j+1))):=by
 have b:=h.1
 unfold Z25
 rw [if_pos (by omega),l8,lA (by simp [cI]; omega) (h.2.take j)]
 simp only [Option.bind_some]
 rw [if_pos (by omega),cH (by unfold cI; omega),if_pos (by omega),iw,Int.toNat_natCast,lA (by simp [cI]; omega) (h.2.drop (j+1))]
 rfl
theorem o0 {ds:List Int}(h:eK ds){j:Nat}(I:j<ds.length)(n:Int){l:List pair}(J:l.length≤4096):∃ ps,Z7 ds (j:Int) n l=some ps:=by
 have Z:=h.1
 unfold Z7
 rw [rb h I]
 simp only [Option.bind_some]
 obtain ⟨a,F⟩:∃ a:Nat,(a:Int)=pr (ds.take j):=⟨(pr (ds.take j)).toNat,by have:=(h.2.take j).pos; omega⟩
 obtain ⟨b,G⟩:∃ b:Nat,(b:Int)=pr (ds.drop (j+1)):=⟨(pr (ds.drop (j+1))).toNat,by have:=(h.2.drop (j+1)).pos; omega⟩
 have a1:=(h.2.take j).2
 have m:=(h.2.drop (j+1)).2
 have a0:=(h.2.take j).pos
 have B:=(h.2.drop (j+1)).pos
 rw [← F] at a1 a0 ⊢
 rw [← G] at m B ⊢
 have k1:(a:Int)*b≤4096*4096:=Int.mul_le_mul a1 m (by omega) (by omega)
 have M:0≤(a:Int)*b:=Int.mul_nonneg (by omega) (by omega)
 have k3:(a:Int)*b*l.length≤4096*4096*4096:=Int.mul_le_mul k1 (by omega) (by omega) (by omega)
 have k4:0≤(a:Int)*b*l.length:=Int.mul_nonneg M (by omega)
 have O:l.length*b≤4096*4096:=Nat.mul_le_mul J (by omega)
 have u:a*(l.length*b)≤4096*(4096*4096):=Nat.mul_le_mul (by omega) O
 rw [bD (n:=(a:Int)*b) (by omega) (by omega),bD (by omega) (by omega),if_pos (by omega)]
 obtain ⟨r,e,_⟩:=lZ (f:=fun s:List pair×Int=>Z7_L1 n l ((a:Int),ix ds (j:Int),(b:Int)) s.1 s.2) a (l.length*b) 8796093022208 (Post:=fun _=>True) []
  (fun i U y L=>by
   simp only [Z7_L1,Z7_J6]
   rw [if_pos (by simp; omega),cH (by unfold cI; omega)]
   obtain ⟨r2,D,T⟩:=lZ (f:=fun s:List pair×Int=>Z7_L2 n l ((a:Int),ix ds (j:Int),(b:Int)) (i:Int) s.1 s.2) l.length b 8796093022208 (Post:=fun r=>r.length≤y.length+l.length*b) y
    (fun k Y z hz=>by
     simp only [Z7_L2,Z7_J5]
     rw [if_pos (by simp; omega),if_pos (by omega),cH (by unfold cI; omega)]
     obtain ⟨r3,E,p3⟩:=lZ (f:=fun s:List pair×Int=>Z7_L3 n l ((a:Int),ix ds (j:Int),(b:Int)) (i:Int) (k:Int) s.1 s.2) b 1 8796093022208 (Post:=fun r=>r.length≤z.length+b*1) z
      (fun q hq v g=>by
       simp only [Z7_L3]
       rw [if_pos (by simp; omega),if_pos (by simp; omega),cH (by unfold cI; omega)]
       exact ⟨_,rfl,by simp⟩)
      (fun v g=>by simp only [Z7_L3]; rw [if_neg (by simp)]; exact ⟨v,rfl,g⟩) (by omega)
     rw [E]
     exact ⟨_,rfl,by omega⟩)
    (fun v g=>by simp only [Z7_L2]; rw [if_neg (by simp)]; exact ⟨v,rfl,g⟩) L
   rw [D]
   exact ⟨_,rfl,T⟩)
  (fun v g=>by simp only [Z7_L1]; rw [if_neg (by simp)]; exact ⟨v,rfl,trivial⟩) (by simp; omega)
 rw [e]
 exact ⟨r,rfl⟩
theorem lD {xs:List Int}{p:Int→Prop}(i:∀ x,Decidable (p x))(h:¬ ∀ x∈xs,p x):∃ m,m<xs.length∧¬ p (ix xs (m:Int))∧∀ k:Nat,k<m→p (ix xs (k:Int)):=by
 induction xs with
 | nil=>exact absurd (fun x g=>by cases g) h
 | cons x xs ih =>
  by_cases c:p x
  ·obtain ⟨m,h1,h2,b⟩:=ih fun q=>h fun y a=>by
    rcases List.mem_cons.1 a with rfl | a
    ·exact c
    ·exact q y a
   refine ⟨m+1,by simpa using h1,by rw [dL]; exact h2,?_⟩
   intro k e
   cases k with
   | zero=>exact c
   | succ k=>rw [dL]; exact b k (by omega)
  ·exact ⟨0,by simp,c,fun k e=>by omega⟩
def Sh (o:Option (List Int×List pair×Bool))(c:Prop)[Decidable c](d:List Int):Prop:=∃ ds ps,o=some (ds,ps,decide c)∧(c→ds=d)
theorem tF {ds:List Int}(h:eK ds){a:Int}{xs:List Int}(Z:xs.length<cI):Sh (Z0d ds a xs) (mX ds a xs) (ds.set a.toNat (xs.length:Int)):=by
 have M:=h.1
 unfold Z0d
 simp only [Zm,Option.bind_some]
 by_cases c:(0≤a∧a<(ds.length:Int))∧xs≠[]∧xs.length≤4096
 ·obtain ⟨g1,E,U⟩:=c
  obtain ⟨j,rfl⟩:=Int.eq_ofNat_of_zero_le g1.1
  have I:j<ds.length:=by omega
  have Y:xs.length≠0:=fun e=>E (List.eq_nil_of_length_eq_zero e)
  rw [if_neg (by simp [E]; omega)]
  by_cases g5:∀ x∈xs,0≤x∧x<ix ds (j:Int)
  ·obtain ⟨r,B,D⟩:=iK (f:=fun s:List pair×Int=>Z0d_L1 ds (j:Int) xs s.1 s.2) (fun k s=>s.2=(k:Int)∧s.1.length=k) xs.length (Post:=fun r=>∃ l,r=.inr l∧l.length≤4096)
    (fun k s F u=>by
     obtain ⟨y,i⟩:=s
     obtain ⟨b,g⟩:=u
     simp only at b g
     subst b
     have:=g5 _ (bH F)
     simp only [Z0d_L1]
     rw [if_pos (by simp; omega),if_pos (by omega),if_pos (fun _=>g1),if_neg (by simp; omega),if_pos (by simp; omega),cH (by unfold cI; omega)]
     exact ⟨_,rfl,rfl,by simp [g]⟩)
    (fun s u=>by
     obtain ⟨y,i⟩:=s
     obtain ⟨b,g⟩:=u
     simp only at b g
     subst b
     simp only [Z0d_L1]
     rw [if_neg (by simp)]
     exact ⟨_,rfl,y,rfl,by omega⟩) (s:=([],0)) ⟨rfl,rfl⟩
   obtain ⟨l,rfl,L⟩:=D
   rw [B]
   simp only [Option.bind_some,Z0d_J1]
   rw [n' M I]
   simp only [Option.bind_some]
   rw [hN (by simp [cI]; omega)]
   by_cases g6:eK (ds.set j (xs.length:Int))
   ·have T:mX ds (j:Int) xs:=⟨g1.1,g1.2,E,g5,by simpa using g6⟩
    obtain ⟨ps,G⟩:=o0 h I (xs.length:Int) L
    simp only [decide_eq_true g6,Option.bind_some,Bool.not_true,Bool.false_eq_true,if_false]
    rw [G]
    exact ⟨_,ps,by rw [decide_eq_true T]; rfl,fun _=>by simp⟩
   ·have no:¬ mX ds (j:Int) xs:=fun q=>g6 (by simpa using q.2.2.2.2)
    simp only [decide_eq_false g6,Option.bind_some,Bool.not_false,if_true]
    exact ⟨_,_,by rw [decide_eq_false no],fun q=>absurd q no⟩
  ·have no:¬ mX ds (j:Int) xs:=fun q=>g5 q.2.2.2.1
   obtain ⟨m,m1,m2,O⟩:=lD (fun _=>inferInstance) g5
   obtain ⟨r,B,D⟩:=iK (f:=fun s:List pair×Int=>Z0d_L1 ds (j:Int) xs s.1 s.2) (fun k s=>s.2=(k:Int)∧s.1.length=k) m (Post:=fun r=>r=.inl ([],[],false))
    (fun k s F u=>by
     obtain ⟨y,i⟩:=s
     obtain ⟨b,g⟩:=u
     simp only at b g
     subst b
     have:=O k F
     simp only [Z0d_L1]
     rw [if_pos (by simp; omega),if_pos (by omega),if_pos (fun _=>g1),if_neg (by simp; omega),if_pos (by simp; omega),cH (by unfold cI; omega)]
     exact ⟨_,rfl,rfl,by simp [g]⟩)
    (fun s u=>by
     obtain ⟨y,i⟩:=s
     obtain ⟨b,g⟩:=u
     simp only at b g
     subst b
     simp only [Z0d_L1]
     rw [if_pos (by simp; omega),if_pos (by omega),if_pos (fun _=>g1),if_pos (by simp only [Bool.or_eq_true,decide_eq_true_eq]; omega)]
     exact ⟨_,rfl,rfl⟩) (s:=([],0)) ⟨rfl,rfl⟩
   rw [B,D]
   exact ⟨_,_,by rw [decide_eq_false no]; rfl,fun q=>absurd q no⟩
 ·have no:¬ mX ds a xs:=fun q=>c ⟨⟨q.1,q.2.1⟩,q.2.2.1,by
   have:=q.2.2.2.2.2.mem (d:=(xs.length:Int)) (by
    have:a.toNat<ds.length:=by have:=q.1; have:=q.2.1; omega
    exact List.mem_iff_getElem.2 ⟨a.toNat,by simpa using this,by simp⟩)
   omega⟩
  have J:((!(decide (a≥0)&&decide (a<(ds.length:Int)))||(xs.length:Int)==0)||decide ((xs.length:Int)>4096))=true:=by
   by_cases q:0≤a∧a<(ds.length:Int)
   ·by_cases q2:xs=[]
    ·subst q2; simp
    ·have:¬ xs.length≤4096:=fun z=>c ⟨q,q2,z⟩
     have:(xs.length:Int)>4096:=by omega
     simp [this]
   ·have:(decide (a≥0)&&decide (a<(ds.length:Int)))=false:=by simp; omega
    rw [this]; rfl
  rw [if_pos J]
  exact ⟨_,_,by rw [decide_eq_false no],fun q=>absurd q no⟩
theorem rO {ds:List Int}(h:eK ds){a n:Int}{xs:List Int}(U:xs.length<cI):Sh (Z0e ds a xs n) (ma ds a xs n) (ds.set a.toNat n):=by
 have L:=h.1
 unfold Z0e
 simp only [Zm,Option.bind_some]
 by_cases g1:0≤a∧a<(ds.length:Int)
 ·obtain ⟨j,rfl⟩:=Int.eq_ofNat_of_zero_le g1.1
  have u:j<ds.length:=by omega
  have Y:=h.2.mem (bH u)
  rw [if_pos (fun _=>g1)]
  by_cases c:(xs.length:Int)=ix ds (j:Int)∧1≤n
  ·obtain ⟨I,T⟩:=c
   rw [if_neg (by simp; omega)]
   by_cases g5:∀ x∈xs,0≤x∧x<n
   ·obtain ⟨r,B,D⟩:=iK (f:=fun s:List pair×Int=>Z0e_L1 xs n s.1 s.2) (fun k s=>s.2=(k:Int)∧s.1.length=k) xs.length (Post:=fun r=>∃ l,r=.inr l∧l.length≤4096)
     (fun k s E g=>by
      obtain ⟨y,i⟩:=s
      obtain ⟨b,e⟩:=g
      simp only at b e
      subst b
      have:=g5 _ (bH E)
      simp only [Z0e_L1]
      rw [if_pos (by simp; omega),if_pos (by omega),if_neg (by simp; omega),if_pos (by simp; omega),cH (by unfold cI; omega)]
      exact ⟨_,rfl,rfl,by simp [e]⟩)
     (fun s g=>by
      obtain ⟨y,i⟩:=s
      obtain ⟨b,e⟩:=g
      simp only at b e
      subst b
      simp only [Z0e_L1]
      rw [if_neg (by simp)]
      exact ⟨_,rfl,y,rfl,by omega⟩) (s:=([],0)) ⟨rfl,rfl⟩
    obtain ⟨l,rfl,J⟩:=D
    rw [B]
    simp only [Option.bind_some,Z0e_J1]
    rw [n' L u]
    simp only [Option.bind_some]
    rw [hN (by simp [cI]; omega)]
    by_cases g6:eK (ds.set j n)
    ·have O:ma ds (j:Int) xs n:=⟨g1.1,g1.2,I,g5,by simpa using g6⟩
     obtain ⟨ps,F⟩:=o0 h u n J
     simp only [decide_eq_true g6,Option.bind_some,Bool.not_true,Bool.false_eq_true,if_false]
     rw [F]
     exact ⟨_,ps,by rw [decide_eq_true O]; rfl,fun _=>by simp⟩
    ·have no:¬ ma ds (j:Int) xs n:=fun q=>g6 (by simpa using q.2.2.2.2)
     simp only [decide_eq_false g6,Option.bind_some,Bool.not_false,if_true]
     exact ⟨_,_,by rw [decide_eq_false no],fun q=>absurd q no⟩
   ·have no:¬ ma ds (j:Int) xs n:=fun q=>g5 q.2.2.2.1
    obtain ⟨m,Z,m2,M⟩:=lD (fun _=>inferInstance) g5
    obtain ⟨r,B,D⟩:=iK (f:=fun s:List pair×Int=>Z0e_L1 xs n s.1 s.2) (fun k s=>s.2=(k:Int)∧s.1.length=k) m (Post:=fun r=>r=.inl ([],[],false))
     (fun k s E g=>by
      obtain ⟨y,i⟩:=s
      obtain ⟨b,e⟩:=g
      simp only at b e
      subst b
      have:=M k E
      simp only [Z0e_L1]
      rw [if_pos (by simp; omega),if_pos (by omega),if_neg (by simp; omega),if_pos (by simp; omega),cH (by unfold cI; omega)]
      exact ⟨_,rfl,rfl,by simp [e]⟩)
     (fun s g=>by
      obtain ⟨y,i⟩:=s
      obtain ⟨b,e⟩:=g
      simp only at b e
      subst b
      simp only [Z0e_L1]
      rw [if_pos (by simp; omega),if_pos (by omega),if_pos (by simp only [Bool.or_eq_true,decide_eq_true_eq]; omega)]
      exact ⟨_,rfl,rfl⟩) (s:=([],0)) ⟨rfl,rfl⟩
    rw [B,D]
    exact ⟨_,_,by rw [decide_eq_false no]; rfl,fun q=>absurd q no⟩
  ·have no:¬ ma ds (j:Int) xs n:=fun q=>c ⟨q.2.2.1,by
    have:=q.2.2.2.2.2.1 n (List.mem_iff_getElem.2 ⟨j,by simpa using u,by simp⟩)
    exact this⟩
   rw [if_pos (by
    by_cases q:(xs.length:Int)=ix ds (j:Int)
    ·have:n<1:=by
      rcases Int.lt_or_le n 1 with z | z
      ·exact z
      ·exact absurd ⟨q,z⟩ c
     simp [this]
    ·simp [q])]
   exact ⟨_,_,by rw [decide_eq_false no],fun q=>absurd q no⟩
 ·have no:¬ ma ds a xs n:=fun q=>g1 ⟨q.1,q.2.1⟩
  have G:(decide (a≥0)&&decide (a<(ds.length:Int)))=false:=by simp; omega
  rw [G,if_pos (fun q=>by cases q),if_pos (by simp)]
  exact ⟨_,_,by rw [decide_eq_false no],fun q=>absurd q no⟩
theorem At {ds:List Int}(h:eK ds){a b f g:Int}:Sh (Zx ds a b f g) (mY ds a b f g) (ds.set a.toNat (jX ds a b f g)):=by
 have Y:=h.1
 unfold Zx
 simp only [Zm,Option.bind_some]
 by_cases g1:0≤a∧a<(ds.length:Int)
 ·obtain ⟨j,rfl⟩:=Int.eq_ofNat_of_zero_le g1.1
  have B:j<ds.length:=by omega
  have hm:=h.2.mem (bH B)
  rw [if_neg (by simp; omega)]
  have lp:=eW [b,f,g] (fun s:Int=>Zx_L1 b f g s) (fun i=>i) (fun x=>!(decide (x<0)||decide (x>4096))) (.inl (([]:List Int),([]:List pair),false)) (.inr ())
   (fun k T=>by
    simp only [List.length_cons,List.length_nil] at T
    simp only [Zx_L1]
    rw [if_pos (by simp; omega),if_pos (by simp; omega),cH (by unfold cI; omega)]
    cases (decide (ix [b,f,g] (k:Int)<0)||decide (ix [b,f,g] (k:Int)>4096))<;>rfl)
   (by simp only [Zx_L1]; rw [if_neg (by simp)])
  rw [lp]
  by_cases c:0≤b∧b≤4096∧0≤f∧f≤4096∧0≤g∧g≤4096
  ·obtain ⟨I,J,L,M,m,E⟩:=c
   have u:([b,f,g].all fun x=>!(decide (x<0)||decide (x>4096)))=true:=by
    rw [List.all_eq_true]
    intro x Z
    have:x=b∨x=f∨x=g:=by simpa using Z
    simp; rcases this with rfl | rfl | rfl<;>omega
   rw [u]
   simp only [if_true,Option.bind_some,Zx_J1]
   have k0:0≤(ix ds (j:Int) - 1)*g:=Int.mul_nonneg (by omega) m
   have k1:=Int.mul_le_mul (show ix ds (j:Int) - 1≤4096 by omega) E m (show (0:Int)≤4096 by omega)
   have e:aK (aK (aK (b+ix ds (j:Int))+aK (aK (ix ds (j:Int) - 1)*g))+f)=jX ds (j:Int) b f g:=by
    rw [bD (n:=b+ix ds (j:Int)) (by omega) (by omega),bD (n:=ix ds (j:Int) - 1) (by omega) (by omega),bD (n:=(ix ds (j:Int) - 1)*g) (by omega) (by omega),bD (n:=b+ix ds (j:Int)+(ix ds (j:Int) - 1)*g) (by omega) (by omega),bD (by omega) (by omega)]
    rfl
   rw [if_pos g1,e,n' Y B]
   simp only [Option.bind_some]
   rw [hN (by simp [cI]; omega)]
   by_cases g6:eK (ds.set j (jX ds (j:Int) b f g))
   ·have ok:mY ds (j:Int) b f g:=⟨g1.1,g1.2,I,J,L,M,m,E,by simpa using g6⟩
    simp only [decide_eq_true g6,Option.bind_some,Bool.not_true,Bool.false_eq_true,if_false]
    obtain ⟨l,O,U⟩:=lZ (f:=fun s:List pair×Int=>Zx_L2 ds (j:Int) b g s.1 s.2) (ix ds (j:Int)).toNat 1 8796093022208 (Post:=fun r=>r.length≤4096) []
     (fun q hq v F=>by
      simp only [Zx_L2]
      rw [if_pos (by simp; omega),if_pos (by simp; omega),cH (by unfold cI; omega)]
      exact ⟨_,rfl,by simp⟩)
     (fun v F=>by
      simp only [Zx_L2]
      simp at F
      rw [if_neg (by simp; omega)]
      exact ⟨v,rfl,by omega⟩) (by simp; omega)
    rw [O]
    simp only [Option.bind_some,Zx_J2]
    obtain ⟨ps,D⟩:=o0 h B (jX ds (j:Int) b f g) U
    rw [e,D]
    exact ⟨_,ps,by rw [decide_eq_true ok]; rfl,fun _=>by simp⟩
   ·have no:¬ mY ds (j:Int) b f g:=fun q=>g6 (by simpa using q.2.2.2.2.2.2.2.2)
    simp only [decide_eq_false g6,Option.bind_some,Bool.not_false,if_true]
    exact ⟨_,_,by rw [decide_eq_false no],fun q=>absurd q no⟩
  ·have no:¬ mY ds (j:Int) b f g:=fun q=>c ⟨q.2.2.1,q.2.2.2.1,q.2.2.2.2.1,q.2.2.2.2.2.1,q.2.2.2.2.2.2.1,q.2.2.2.2.2.2.2.1⟩
   have u:([b,f,g].all fun x=>!(decide (x<0)||decide (x>4096)))=false:=by
    simp only [List.all_cons,List.all_nil,Bool.and_true,Bool.and_eq_false_iff,Bool.not_eq_false',Bool.or_eq_true,decide_eq_true_eq]
    omega
   rw [u]
   exact ⟨_,_,by rw [decide_eq_false no]; rfl,fun q=>absurd q no⟩
 ·have no:¬ mY ds a b f g:=fun q=>g1 ⟨q.1,q.2.1⟩
  have G:(decide (a≥0)&&decide (a<(ds.length:Int)))=false:=by simp; omega
  rw [G,if_pos (by simp)]
  exact ⟨_,_,by rw [decide_eq_false no],fun q=>absurd q no⟩
theorem xJ {ds:List Int}(h:eK ds){a st n:Int}:Sh (Z4 ds a st n) (mc ds a st n) ((ds.set a.toNat n).take (ds.length - 1)):=by
 have hn:=h.1
 have w1:aK ((ds.length:Int) - 1)=(ds.length:Int) - 1:=bD (by omega) (by omega)
 unfold Z4
 simp only [Zm,Option.bind_some,w1]
 by_cases c:(0≤a∧a<(ds.length:Int))∧a≠(ds.length:Int) - 1∧1≤st∧1≤n∧n≤4096
 ·obtain ⟨g1,M,c2,c3,c4⟩:=c
  obtain ⟨j,rfl⟩:=Int.eq_ofNat_of_zero_le g1.1
  have hj:j<ds.length:=by omega
  obtain ⟨l,D⟩:∃ l,l=ds.length - 1:=⟨_,rfl⟩
  have g:(ds.length:Int) - 1=(l:Int):=by omega
  have J:aK (l:Int)=(l:Int):=bD (by omega) (by omega)
  have hm:=h.2.mem (bH hj)
  have a0:=h.2.mem (bH (xs:=ds) (k:=l) (by omega))
  have b0:(decide ((j:Int)≥0)&&decide ((j:Int)<(ds.length:Int)))=true:=by simp; omega
  rw [g] at M ⊢
  have G:((((!(decide ((j:Int)≥0)&&decide ((j:Int)<(ds.length:Int)))||((j:Int)==(l:Int)))||decide (st<1))||decide (n<1))||decide (n>4096))=false:=by rw [b0]; simp; omega
  have m:mc ds (j:Int) st n↔0≤(j:Int)∧(j:Int)<(ds.length:Int)∧(j:Int)≠(l:Int)∧1≤st∧1≤n∧n≤4096∧ix ds (l:Int)≤n∧(n - ix ds (l:Int)) / st+1=ix ds (j:Int)∧eK ((ds.set j n).take l):=by
   unfold mc
   rw [g,← D,Int.toNat_natCast]
  rw [G]
  rw [if_pos (fun _=>by omega),if_pos (fun _=>g1),if_pos (fun _=>by omega),if_pos (fun _=>by omega)]
  by_cases c5:ix ds (l:Int)≤n
  ·have q0:0≤(n - ix ds (l:Int)) / st:=Int.ediv_nonneg (by omega) (by omega)
   have q1:(n - ix ds (l:Int)) / st≤n - ix ds (l:Int):=Int.ediv_le_self _ (by omega)
   have e:aK (aK ((aK (n - ix ds (l:Int))).tdiv st)+1)=(n - ix ds (l:Int)) / st+1:=by
    rw [bD (n:=n - ix ds (l:Int)) (by omega) (by omega),Int.tdiv_eq_ediv_of_nonneg (by omega),bD (n:=(n - ix ds (l:Int)) / st) (by omega) (by omega),bD (by omega) (by omega)]
   rw [e]
   by_cases c6:(n - ix ds (l:Int)) / st+1=ix ds (j:Int)
   ·rw [if_neg (by simp [c6]; omega),n' hn hj]
    simp only [Option.bind_some,Int.toNat_natCast]
    rw [if_pos (by simp; omega),l8,hN (by simp [cI]; omega)]
    by_cases g5:eK ((ds.set j n).take l)
    ·simp only [decide_eq_true g5,Option.bind_some,Bool.not_true,Bool.false_eq_true,if_false]
     have ok:mc ds (j:Int) st n:=m.2 ⟨g1.1,g1.2,M,c2,c3,c4,c5,c6,g5⟩
     rw [if_pos g1]
     have j1:∀ s:Int,∃ ps,Z4_J1 ds (j:Int) n (ds.set j n) s=some ((ds.set j n).take l,ps,true):=by
      intro s
      have b:eK (ds.take l):=⟨by simp; omega,h.2.take l⟩
      simp only [Z4_J1,g,J]
      rw [if_pos (by omega),l8,rb b (by simp; omega)]
      simp only [Option.bind_some]
      obtain ⟨A,T⟩:∃ A:Nat,(A:Int)=pr ((ds.take l).take j):=⟨(pr ((ds.take l).take j)).toNat,by have:=(b.2.take j).pos; omega⟩
      obtain ⟨L,Y⟩:∃ L:Nat,(L:Int)=ix (ds.take l) (j:Int):=⟨(ix (ds.take l) (j:Int)).toNat,by have:=b.2.mem (bH (xs:=ds.take l) (k:=j) (by simp; omega)); omega⟩
      obtain ⟨B,U⟩:∃ B:Nat,(B:Int)=pr ((ds.take l).drop (j+1)):=⟨(pr ((ds.take l).drop (j+1))).toNat,by have:=(b.2.drop (j+1)).pos; omega⟩
      obtain ⟨Z,hZ⟩:∃ Z:Nat,(Z:Int)=ix ds (l:Int):=⟨(ix ds (l:Int)).toNat,by omega⟩
      have a1:=(b.2.take j).2
      have G:=(b.2.drop (j+1)).2
      have l1:=b.2.mem (bH (xs:=ds.take l) (k:=j) (by simp; omega))
      rw [← T] at a1 ⊢
      rw [← U] at G ⊢
      rw [← Y] at l1 ⊢
      have m1:B*(Z*1)≤4096*4096:=Nat.mul_le_mul (by omega) (by omega)
      have m2:L*(B*(Z*1))≤4096*(4096*4096):=Nat.mul_le_mul (by omega) m1
      have m3:A*(L*(B*(Z*1)))≤64*(4096*(4096*4096))∨True:=.inr trivial
      -- the product of all four is the size of the b'
      have I:pr (ds.take l)=pr ((ds.take l).take j)*(ix (ds.take l) (j:Int)*pr ((ds.take l).drop (j+1))):=by
       rw [gY (ds.take l) j]
       have:(ds.take l).drop j=ix (ds.take l) (j:Int)::(ds.take l).drop (j+1):=by rw [List.drop_eq_getElem_cons (by simp; omega),cD (by simp; omega)]
       rw [this]; rfl
      rw [← T,← Y,← U] at I
      have h4:A*(L*B)≤4096:=by
       have:=b.2.2
       rw [I] at this
       have O:((A*(L*B):Nat):Int)=(A:Int)*((L:Int)*(B:Int)):=by simp
       omega
      have m4:A*(L*(B*(Z*1)))≤4096*4096:=by
       have e5:A*(L*(B*(Z*1)))=A*(L*B)*Z:=by rw [Nat.mul_one,Nat.mul_assoc,Nat.mul_assoc]
       rw [e5]
       exact Nat.mul_le_mul h4 (by omega)
      obtain ⟨r,e1,_⟩:=lZ (f:=fun q:List pair×Int=>Z4_L1 ds n s ((A:Int),(L:Int),(B:Int)) q.1 q.2) A (L*(B*(Z*1))) 8796093022208 (Post:=fun _=>True) []
       (fun i hi y hy=>by
        simp only [Z4_L1,Z4_J15]
        rw [if_pos (by simp; omega),cH (by unfold cI; omega)]
        obtain ⟨r2,e2,p2⟩:=lZ (f:=fun q:List pair×Int=>Z4_L2 ds n s ((A:Int),(L:Int),(B:Int)) (i:Int) q.1 q.2) L (B*(Z*1)) 8796093022208 (Post:=fun r=>r.length≤y.length+L*(B*(Z*1))) y
         (fun k hk z hz=>by
          simp only [Z4_L2,Z4_J14]
          rw [if_pos (by simp; omega),cH (by unfold cI; omega)]
          obtain ⟨r3,e3,p3⟩:=lZ (f:=fun q:List pair×Int=>Z4_L3 ds n s ((A:Int),(L:Int),(B:Int)) (i:Int) (k:Int) q.1 q.2) B (Z*1) 8796093022208 (Post:=fun r=>r.length≤z.length+B*(Z*1)) z
           (fun p hp u hu=>by
            simp only [Z4_L3,Z4_J13]
            rw [if_pos (by simp; omega),cH (by unfold cI; omega)]
            obtain ⟨r4,O,p4⟩:=lZ (f:=fun q:List pair×Int=>Z4_L4 ds n s ((A:Int),(L:Int),(B:Int)) (i:Int) (k:Int) (p:Int) q.1 q.2) Z 1 8796093022208 (Post:=fun r=>r.length≤u.length+Z*1) u
             (fun o ho v F=>by
              simp only [Z4_L4,g,J]
              rw [if_pos (by omega),if_pos (by simp; omega),if_pos (by simp; omega),cH (by unfold cI; omega)]
              exact ⟨_,rfl,by simp⟩)
             (fun v F=>by
              simp only [Z4_L4,g,J]
              rw [if_pos (by omega),if_neg (by simp; omega)]
              exact ⟨v,rfl,F⟩) (by omega)
            rw [O]
            exact ⟨_,rfl,p4⟩)
           (fun v F=>by simp only [Z4_L3]; rw [if_neg (by simp)]; exact ⟨v,rfl,F⟩) hz
          rw [e3]
          exact ⟨_,rfl,p3⟩)
         (fun v F=>by simp only [Z4_L2]; rw [if_neg (by simp)]; exact ⟨v,rfl,F⟩) hy
        rw [e2]
        exact ⟨_,rfl,p2⟩)
       (fun v F=>by simp only [Z4_L1]; rw [if_neg (by simp)]; exact ⟨v,rfl,trivial⟩) (by simp only [List.length_nil]; omega)
      rw [e1]
      simp only [Option.bind_some,Z4_J16,g,J]
      rw [l8]
      exact ⟨r,rfl⟩
     by_cases g7:ix ds (j:Int)=1
     ·rw [if_pos (by simp [g7])]
      obtain ⟨ps,E⟩:=j1 0
      rw [E]
      exact ⟨_,ps,by rw [decide_eq_true ok],fun _=>by rw [← D]⟩
     ·rw [if_neg (by simp [g7])]
      obtain ⟨ps,E⟩:=j1 st
      rw [E]
      exact ⟨_,ps,by rw [decide_eq_true ok],fun _=>by rw [← D]⟩
    ·simp only [decide_eq_false g5,Option.bind_some,Bool.not_false,if_true]
     exact ⟨_,_,by rw [decide_eq_false (fun q=>g5 (m.1 q).2.2.2.2.2.2.2.2)],fun q=>absurd (m.1 q).2.2.2.2.2.2.2.2 g5⟩
   ·rw [if_pos (by simp only [Bool.or_eq_true,bne_iff_ne]; exact .inr fun z=>c6 z.symm)]
    exact ⟨_,_,by rw [decide_eq_false (fun q=>c6 (m.1 q).2.2.2.2.2.2.2.1)],fun q=>absurd (m.1 q).2.2.2.2.2.2.2.1 c6⟩
  ·rw [if_pos (by simp only [Bool.or_eq_true,Bool.false_or,decide_eq_true_eq]; exact .inl (by omega))]
   exact ⟨_,_,by rw [decide_eq_false (fun q=>c5 (m.1 q).2.2.2.2.2.2.1)],fun q=>absurd (m.1 q).2.2.2.2.2.2.1 c5⟩
 ·have no:¬ mc ds a st n:=fun q=>c ⟨⟨q.1,q.2.1⟩,q.2.2.1,q.2.2.2.1,q.2.2.2.2.1,q.2.2.2.2.2.1⟩
  have G:((((!(decide (a≥0)&&decide (a<(ds.length:Int)))||(a==(ds.length:Int) - 1))||decide (st<1))||decide (n<1))||decide (n>4096))=true:=by
   simp only [Bool.or_eq_true,Bool.not_eq_true',decide_eq_true_eq,Bool.and_eq_false_iff,decide_eq_false_iff_not,beq_iff_eq]
   omega
  rw [G,if_pos (fun q=>by simp at q),if_pos (fun q=>by simp at q),if_pos (fun q=>by simp at q),if_pos (fun q=>by simp at q),if_pos (by simp)]
  exact ⟨_,_,by rw [decide_eq_false no],fun q=>absurd q no⟩
theorem l9 (n:Node)(u:aO)(bd b a bx:Bool)(h1:Z6 hL u=some bd)(h2:Z6 fA u=some b)(e:Z6 kq u=some a)(g:Z6 oM u=some bx) :
  Z1z n u=some ((((bd||((n.Dims.length:Int)==(0:Int)))&&(b||((n.Ints.length:Int)==(0:Int))))&&(a||(n.Form==([]:aO))))&&(bx||((n.Data.length:Int)==(0:Int)))):=by
 unfold Z1z
 rw [h1,h2,e,g]
 simp only [Option.bind_some]
 generalize ((n.Dims.length:Int)==(0:Int))=x1
 generalize ((n.Ints.length:Int)==(0:Int))=x2
 generalize (n.Form==([]:aO))=x3
 generalize ((n.Data.length:Int)==(0:Int))=x4
 cases bd<;>cases x1<;>cases b<;>cases x2<;>cases a<;>cases x3<;>cases bx<;>cases x4<;>rfl
theorem tG:Z6 hL []=some false:=by kernel_rfl
theorem tH:Z6 fA []=some false:=by kernel_rfl
theorem tJ:Z6 kq []=some false:=by kernel_rfl
theorem tK:Z6 oM []=some false:=by kernel_rfl
theorem pT:Z6 hL hL=some true:=by kernel_rfl
theorem pU:Z6 fA hL=some false:=by kernel_rfl
theorem pV:Z6 kq hL=some false:=by kernel_rfl
theorem pW:Z6 oM hL=some false:=by kernel_rfl
theorem kG:Z6 hL fA=some false:=by kernel_rfl
theorem kH:Z6 fA fA=some true:=by kernel_rfl
theorem kI:Z6 kq fA=some false:=by kernel_rfl
theorem kJ:Z6 oM fA=some false:=by kernel_rfl
theorem xK:Z6 hL oL=some true:=by kernel_rfl
theorem xL:Z6 fA oL=some false:=by kernel_rfl
theorem xM:Z6 kq oL=some false:=by kernel_rfl
theorem xN:Z6 oM oL=some true:=by kernel_rfl
theorem xO:Z6 hL kq=some false:=by kernel_rfl
theorem xP:Z6 fA kq=some false:=by kernel_rfl
theorem xQ:Z6 kq kq=some true:=by kernel_rfl
theorem xR:Z6 oM kq=some false:=by kernel_rfl
def o4 (n:Node)(m:Nat):Prop:=∀ a∈n.Args,0≤a∧a<(m:Int)
instance (n:Node)(m:Nat):Decidable (o4 n m):=by unfold o4; infer_instance
theorem xS {n:Node}{b:List (List Int)}(j:b.length≤4096)(i:n.Args.length≤6):aW (fun s:List (List Int)×Int=>Zf_L1 n b s.1 s.2) ([],0)=some (if o4 n b.length then .inr (n.Args.map fun a=>ix b a) else .inl ([],false)):=by
 have e:∀ k:Nat,k<n.Args.length→(0≤ix n.Args (k:Int)∧ix n.Args (k:Int)<(b.length:Int))→(fun s:List (List Int)×Int=>Zf_L1 n b s.1 s.2) ((n.Args.take k).map fun a=>ix b a,(k:Int))=some (.inl ((n.Args.take (k+1)).map fun a=>ix b a,((k+1:Nat):Int))):=by
  intro k g hw
  simp only [Zf_L1]
  rw [if_pos (by simp; omega),if_pos (by omega),if_neg (by simp; omega),if_pos hw,if_pos (by simp; omega),cH (by unfold cI; omega),List.take_succ_eq_append_getElem g,List.map_append,cD g]
  rfl
 by_cases c:o4 n b.length
 ·rw [if_pos c]
  refine fD (fun k=>((n.Args.take k).map fun a=>ix b a,(k:Int))) n.Args.length (fun k g=>e k g (c _ (bH g))) ?_ rfl
  simp only [Zf_L1]
  rw [if_neg (by simp),List.take_length]
 ·rw [if_neg c]
  obtain ⟨m,l,q,h⟩:=lD (p:=fun a=>0≤a∧a<(b.length:Int)) (fun _=>inferInstance) c
  refine fD (fun k=>((n.Args.take k).map fun a=>ix b a,(k:Int))) m (fun k g=>e k (by omega) (h k g)) ?_ rfl
  simp only [Zf_L1]
  rw [if_pos (by simp; omega),if_pos (by omega),if_pos (by simp only [Bool.or_eq_true,decide_eq_true_eq]; omega)]
theorem xT {n:Node}{b:List (List Int)}(i:b.length≤4096){kd:kindOfR}{u:aO}{e:Bool}(h:Zw n.Op=some kd)(l:Nat.beq kd.t 0=false)(m:gE kd=some u)(j:Z1z n u=some e) :
  Zf n b=if e=true∧n.Args.length≤6 then (if o4 n b.length then bV kd n (n.Args.map fun a=>ix b a) else some ([],false)) else some ([],false):=by
 unfold Zf
 rw [h]
 simp only [Option.bind_some,l,bR,Bool.not_false,cond_true,m,j,Bool.false_or]
 by_cases c:e=true∧n.Args.length≤6
 ·obtain ⟨rfl,g⟩:=c
  rw [if_neg (by simp; omega),if_pos ⟨rfl,g⟩,xS i g]
  by_cases w:o4 n b.length
  ·rw [if_pos w,if_pos w]
   simp only [Option.bind_some,Zf_J1]
   cases bV kd n (n.Args.map fun a=>ix b a)<;>rfl
  ·rw [if_neg w,if_neg w]
   rfl
 ·rw [if_neg c,if_pos]
  cases e
  ·rfl
  ·have:¬ n.Args.length≤6:=fun z=>c ⟨rfl,z⟩
   simp; omega
def FM (n:Node)(lo a:Int)(b:Bool)(ui uj:Int):Prop:=lo≤(n.Args.length:Int)∧(n.Args.length:Int)≤a∧(b=true∨n.Dims=[])∧(n.Op=11∨n.Form=[])∧(n.Op=2∨n.Data=[])∧ui≤(n.Ints.length:Int)∧(n.Ints.length:Int)≤uj
instance (n:Node)(lo hi:Int)(ud:Bool)(ui uj:Int):Decidable (FM n lo hi ud ui uj):=by unfold FM; infer_instance
theorem gZ {n:Node}{lo b ui uj:Int}{a:Bool}(h1:1≤n.Op)(h2:n.Op≤19)(l:Z34 n.Op=some (lo,b))(m:Z3e n.Op=some a)(e:Z1a n.Op=some ui)(g:uj=if n.Op=16∨n.Op=17 then ui+4096 else ui)(r:0≤ui∧ui≤100) :
  Z17 n=some (decide (FM n lo b a ui uj)):=by
 unfold Z17
 rw [if_neg (by simp; omega),l]
 simp only [Option.bind_some]
 by_cases c1:lo≤(n.Args.length:Int)∧(n.Args.length:Int)≤b
 ·rw [if_neg (by simp; omega),m]
  simp only [Option.bind_some]
  by_cases c2:(a=true∨n.Dims=[])∧(n.Op=11∨n.Form=[])∧(n.Op=2∨n.Data=[])
  ·obtain ⟨d1,d2,d3⟩:=c2
   have h:((!a)&&decide ((n.Dims.length:Int)>0))=false:=by
    rcases d1 with d | d<;>simp [d]
   have i:((n.Op != 11)&&(!(n.Form==([]:aO))))=false:=by
    rcases d2 with d | d<;>simp [d]
   have j:((n.Op != 2)&&decide ((n.Data.length:Int)>0))=false:=by
    rcases d3 with d | d<;>simp [d]
   rw [h,i,j,if_neg (by simp),e]
   simp only [Option.bind_some]
   by_cases c3:n.Op=16∨n.Op=17
   ·rw [if_pos (by simpa using c3),bD (by omega) (by omega)]
    rw [if_pos c3] at g
    congr 1
    rw [Bool.eq_iff_iff]
    simp only [Bool.and_eq_true,decide_eq_true_eq]
    unfold FM
    exact ⟨fun q=>⟨c1.1,c1.2,d1,d2,d3,q.1,by omega⟩,fun q=>⟨q.2.2.2.2.2.1,by have:=q.2.2.2.2.2.2; omega⟩⟩
   ·rw [if_neg (by simpa using c3)]
    rw [if_neg c3] at g
    congr 1
    rw [Bool.eq_iff_iff]
    simp only [beq_iff_eq,decide_eq_true_eq]
    unfold FM
    exact ⟨fun q=>⟨c1.1,c1.2,d1,d2,d3,by omega,by omega⟩,fun q=>by have:=q.2.2.2.2.2.1; have:=q.2.2.2.2.2.2; omega⟩
  ·have no:¬ FM n lo b a ui uj:=fun q=>c2 ⟨q.2.2.1,q.2.2.2.1,q.2.2.2.2.1⟩
   rw [decide_eq_false no,if_pos]
   refine Classical.byContradiction fun z=>c2 ?_
   simp only [Bool.or_eq_true,Bool.and_eq_true,Bool.not_eq_true',decide_eq_true_eq,bne_iff_ne,beq_eq_false_iff_ne,not_or,not_and] at z
   refine ⟨?_,?_,?_⟩
   ·cases a
    ·refine .inr (List.eq_nil_of_length_eq_zero ?_); have:=z.1.1 rfl; omega
    ·exact .inl rfl
   ·by_cases q:n.Op=11
    ·exact .inl q
    ·exact .inr (Classical.not_not.1 (z.1.2 q))
   ·by_cases q:n.Op=2
    ·exact .inl q
    ·refine .inr (List.eq_nil_of_length_eq_zero ?_); have:=z.2 q; omega
 ·have no:¬ FM n lo b a ui uj:=fun q=>c1 ⟨q.1,q.2.1⟩
  rw [decide_eq_false no,if_pos (by simp only [Bool.or_eq_true,decide_eq_true_eq]; omega)]
noncomputable def Do (n:Node)(b:List Tensor):Option Tensor:=if n.Op=1 then Z0q n.Dims 0 else Z1 n (n.Args.map fun a=>ix b a)
def p8 (n:Node)(a:List Tensor)(o:Option (List Int×Bool)):Prop :=
 (∃ t,o=some (t.Dims,true)∧Z17 n=some true∧o4 n a.length∧Do n a=some t∧TT t) ∨
 (∃ ds,o=some (ds,false)∧(Z17 n=some false∨Z17 n=some true∧(o4 n a.length→Do n a=some ⟨[],[]⟩)))
structure Caps (n:Node)(out:List Tensor):Prop where
 a:n.Args.length<cI
 d:n.Dims.length<cI
 i:n.Ints.length<cI
 x:n.Data.length<cI
 f:n.Form.length≤1048576
 o:out.length≤200
 t:∀ t∈out,TT t
theorem nz {b:List Tensor}{a:Int}(g:0≤a)(h1:a<(b.length:Int)):ix (b.map Tensor.Dims) a=(ix b a).Dims∧ix b a∈b:=by
 obtain ⟨k,rfl⟩:=Int.eq_ofNat_of_zero_le g
 have e:k<b.length:=by omega
 rw [cD (by simpa using e),cD e]
 exact ⟨by simp,List.getElem_mem e⟩
theorem mZ {n:Node}{b:List Tensor}(r:Caps n b){kd:kindOfR}{u:aO}{g fb:Bool}(s:Zw n.Op=some kd)(E:Nat.beq kd.t 0=false)(F:gE kd=some u)(D:Z1z n u=some g)(e:Z17 n=some fb)
  (h1:fb=true→g=true∧n.Args.length≤6)
  (h2:g=true→o4 n b.length→fb=false→∃ ds,bV kd n ((n.Args.map fun a=>ix b a).map Tensor.Dims)=some (ds,false))
  (m:fb=true→o4 n b.length→∃ t,(bV kd n ((n.Args.map fun a=>ix b a).map Tensor.Dims)=some (t.Dims,true)∧Do n b=some t∧TT t)∨∃ ds,bV kd n ((n.Args.map fun a=>ix b a).map Tensor.Dims)=some (ds,false)∧Do n b=some ⟨[],[]⟩) :
  p8 n b (Zf n (b.map Tensor.Dims)):=by
 have J:=r.o
 rw [xT (by simp; omega) s E F D]
 have j:o4 n b.length→(n.Args.map fun a=>ix (b.map Tensor.Dims) a)=(n.Args.map fun a=>ix b a).map Tensor.Dims:=by
  intro w
  rw [List.map_map]
  exact List.map_congr_left fun a l=>(nz (w a l).1 (w a l).2).1
 have B:(b.map Tensor.Dims).length=b.length:=by simp
 rw [B]
 cases fb with
 | true =>
  obtain ⟨p1,G⟩:=h1 rfl
  rw [if_pos ⟨p1,G⟩]
  by_cases w:o4 n b.length
  ·rw [if_pos w,j w]
   obtain ⟨t,q⟩:=m rfl w
   rcases q with ⟨h,i,I⟩|⟨ds,h,i⟩
   ·exact .inl ⟨t,h,e,w,i,I⟩
   ·exact .inr ⟨ds,h,.inr ⟨e,fun _=>i⟩⟩
  ·rw [if_neg w]
   exact .inr ⟨[],rfl,.inr ⟨e,fun z=>absurd z w⟩⟩
 | false =>
  by_cases c:g=true∧n.Args.length≤6
  ·rw [if_pos c]
   by_cases w:o4 n b.length
   ·rw [if_pos w,j w]
    obtain ⟨ds,q⟩:=h2 c.1 w rfl
    exact .inr ⟨ds,q,.inl e⟩
   ·rw [if_neg w]
    exact .inr ⟨[],rfl,.inl e⟩
  ·rw [if_neg c]
   exact .inr ⟨[],rfl,.inl e⟩
theorem sh2 (b i j s n args):bV ⟨2,b,i,j,s⟩ n args=Z26 ⟨i⟩ n args:=rfl
theorem lE {n:Node}{b:Bool}{args:List (List Int)}(g:n.Dims.length<cI)(h:n.Data.length<cI):Z1j ⟨b⟩ n args=some (if args=[]∧eK n.Dims∧(b=true→TOk n.Dims n.Data) then (n.Dims,true) else ([],false)):=by
 unfold Z1j
 by_cases c1:args=[]
 ·subst c1
  have a:(((([]:List (List Int)).length:Int)) != 0)=false:=rfl
  simp only [a,bR,Bool.not_false,cond_true,Bool.false_or]
  rw [hN g]
  simp only [Option.bind_some]
  by_cases c2:eK n.Dims
  ·simp only [decide_eq_true c2,Bool.not_true,Bool.not_false,Bool.true_and,Bool.false_or]
   cases b with
   | false=>simp [c2]
   | true =>
    rw [cond_true,tm (t:=⟨n.Dims,n.Data⟩) g h]
    by_cases c3:TOk n.Dims n.Data
    ·simp [c2,c3]
    ·simp [c2,c3]
  ·simp [decide_eq_false c2,c2]
 ·have a:((args.length:Int) != 0)=true:=by
   have:args.length≠0:=fun e=>c1 (List.eq_nil_of_length_eq_zero e)
   simp; omega
  simp only [a,bR,Bool.not_true,Bool.not_false,cond_false,Bool.true_or,Option.bind_some,Bool.false_and]
  simp [c1]
theorem la {α:Type}(xs:List α):((xs.length:Int)=0)↔xs=[]:=by
 exact ⟨fun h=>List.eq_nil_of_length_eq_zero (by omega),fun h=>by simp [h]⟩
theorem tL {n:Node}{g:List Tensor}(b:Caps n g)(a:n.Op=1):p8 n g (Zf n (g.map Tensor.Dims)):=by
 refine mZ b (kd:=⟨1,false,0,0,[]⟩) (u:=hL) (fb:=decide (FM n 0 0 true 0 0)) (by rw [a]; rfl) rfl rfl (l9 n hL true false false false pT pU pV pW) (gZ (by omega) (by omega) (by rw [a]; rfl) (by rw [a]; rfl) (by rw [a]; rfl) (by rw [a]; rfl) ⟨by omega,by omega⟩) ?_ ?_ ?_
 ·intro h
  obtain ⟨f1,r,s,j,l,B,D⟩:=of_decide_eq_true h
  have E:n.Form=[]:=j.resolve_left (by omega)
  have F:n.Data=[]:=l.resolve_left (by omega)
  have G:n.Ints=[]:=List.eq_nil_of_length_eq_zero (by omega)
  exact ⟨by rw [E,F,G]; rfl,by omega⟩
 ·intro i hw h
  show ∃ ds,Z1j ⟨false⟩ n _=_
  rw [lE b.d b.x]
  have:n.Args≠[]:=by
   intro e
   refine of_decide_eq_false h ?_
   simp only [Bool.true_or,Bool.false_or,Bool.true_and,Bool.and_eq_true,la,beq_iff_eq] at i
   refine ⟨by rw [e]; decide,by rw [e]; decide,.inl rfl,.inr i.1.2,.inr i.2,by omega,by rw [i.1.1]; decide⟩
  rw [if_neg (by simp [this])]
  exact ⟨_,rfl⟩
 ·intro h hw
  obtain ⟨f1,r,s,j,l,B,D⟩:=of_decide_eq_true h
  have I:n.Args=[]:=List.eq_nil_of_length_eq_zero (by omega)
  obtain ⟨a1,m⟩:=xF b.d
  by_cases c:eK n.Dims
  ·obtain ⟨d,d1,d2⟩:=a1 c
   refine ⟨⟨n.Dims,d⟩,.inl ⟨?_,by unfold Do; rw [if_pos a]; exact d1,d2⟩⟩
   show Z1j ⟨false⟩ n _=_
   rw [lE b.d b.x,if_pos ⟨by simp [I],c,by simp⟩]
  ·refine ⟨⟨[],[]⟩,.inr ⟨[],?_,by unfold Do; rw [if_pos a]; exact m c⟩⟩
   show Z1j ⟨false⟩ n _=_
   rw [lE b.d b.x,if_neg (fun q=>c q.2.1)]
theorem tM {n:Node}{h:List Tensor}(b:Caps n h)(a:n.Op=2):p8 n h (Zf n (h.map Tensor.Dims)):=by
 refine mZ b (kd:=⟨1,true,0,0,[]⟩) (u:=oL) (fb:=decide (FM n 0 0 true 0 0)) (by rw [a]; rfl) rfl rfl (l9 n oL true false false true xK xL xM xN) (gZ (by omega) (by omega) (by rw [a]; rfl) (by rw [a]; rfl) (by rw [a]; rfl) (by rw [a]; rfl) ⟨by omega,by omega⟩) ?_ ?_ ?_
 ·intro i
  obtain ⟨f1,r,s,m,B,D,E⟩:=of_decide_eq_true i
  have F:n.Form=[]:=m.resolve_left (by omega)
  have G:n.Ints=[]:=List.eq_nil_of_length_eq_zero (by omega)
  exact ⟨by rw [F,G]; rfl,by omega⟩
 ·intro j hw i
  show ∃ ds,Z1j ⟨true⟩ n _=_
  rw [lE b.d b.x]
  have:n.Args≠[]:=by
   intro e
   refine of_decide_eq_false i ?_
   simp only [Bool.true_or,Bool.false_or,Bool.true_and,Bool.and_true,Bool.and_eq_true,la,beq_iff_eq] at j
   refine ⟨by rw [e]; decide,by rw [e]; decide,.inl rfl,.inr j.2,.inl a,by omega,by rw [j.1]; decide⟩
  rw [if_neg (by simp [this])]
  exact ⟨_,rfl⟩
 ·intro i hw
  obtain ⟨f1,r,s,m,B,D,E⟩:=of_decide_eq_true i
  have I:n.Args=[]:=List.eq_nil_of_length_eq_zero (by omega)
  have g:Do n h=if TOk n.Dims n.Data then some ⟨n.Dims,n.Data⟩ else some ⟨[],[]⟩:=by
   unfold Do Z1
   rw [if_neg (by omega),if_pos (by simp [a]),pL (t:=⟨n.Dims,n.Data⟩) b.d b.x]
   simp only [Option.bind_some]
   by_cases c:TOk n.Dims n.Data
   ·have h1:=c.l
    have h2:=c.d.1
    have J:=c.d.2.2
    rw [decide_eq_true c,if_pos c,if_neg (by simp),fL (by omega),fL (by omega)]
    rfl
   ·rw [decide_eq_false c,if_neg c,if_pos (by simp)]
  by_cases c:TOk n.Dims n.Data
  ·rw [if_pos c] at g
   refine ⟨⟨n.Dims,n.Data⟩,.inl ⟨?_,g,c⟩⟩
   show Z1j ⟨true⟩ n _=_
   rw [lE b.d b.x,if_pos ⟨by simp [I],c.d,fun _=>c⟩]
  ·rw [if_neg c] at g
   refine ⟨⟨[],[]⟩,.inr ⟨[],?_,g⟩⟩
   show Z1j ⟨true⟩ n _=_
   rw [lE b.d b.x,if_neg (fun q=>c (q.2.2 rfl))]
theorem tN {i:Int}{n:Node}{args:List (List Int)}(b:∀ a∈args,a.length<cI):Z26 ⟨i⟩ n args=some (if args.length=2∧ix args 0=ix args 1 then (ix args 0,true) else ([],false)):=by
 unfold Z26
 by_cases c:args.length=2
 ·have e:((args.length:Int) != 2)=false:=by simp [c]
  rw [e,if_pos (fun _=>by omega),if_pos (fun _=>by omega)]
  simp only [bR,Bool.not_false,cond_true,Bool.false_or]
  have g:ix args (0:Int)∈args:=bH (k:=0) (by omega)
  rw [qT (b _ g)]
  simp only [Option.bind_some]
  by_cases q:ix args 0=ix args 1
  ·rw [decide_eq_true q,if_neg (by simp),if_pos (by omega),if_pos ⟨c,q⟩]
  ·rw [decide_eq_false q,if_pos (by simp),if_neg (fun z=>q z.2)]
 ·have e:((args.length:Int) != 2)=true:=by simp; omega
  rw [e,if_pos (fun z=>by cases z),if_pos (fun z=>by cases z)]
  simp only [bR,Bool.not_true,cond_false,Option.bind_some,Bool.true_or,if_true]
  rw [if_neg (fun z=>c z.1)]
theorem kf {n:Node}{b:List Tensor}(g:Caps n b)(hw:o4 n b.length):∀ t∈(n.Args.map fun a=>ix b a),TT t:=by
 intro t h
 obtain ⟨a,e,rfl⟩:=List.mem_map.1 h
 exact g.t _ (nz (hw a e).1 (hw a e).2).2
theorem vq {n:Node}{i:List Tensor}(E:Caps n i)(h3:3≤n.Op)(h5:n.Op≤5):p8 n i (Zf n (i.map Tensor.Dims)):=by
 have g:n.Op=3∨n.Op=4∨n.Op=5:=by omega
 refine mZ E (kd:=⟨2,false,n.Op - 2,0,[]⟩) (u:=[]) (fb:=decide (FM n 2 2 false 0 0)) (by rcases g with h | h | h<;>rw [h]<;>rfl) rfl rfl (l9 n [] false false false false tG tH tJ tK) (gZ (by omega) (by omega) (by rcases g with h | h | h<;>rw [h]<;>rfl) (by rcases g with h | h | h<;>rw [h]<;>rfl) (by rcases g with h | h | h<;>rw [h]<;>rfl) (by rw [if_neg (by omega)]) ⟨by omega,by omega⟩) ?_ ?_ ?_
 ·intro l
  obtain ⟨f1,T,I,J,L,U,Y⟩:=of_decide_eq_true l
  have Z:n.Dims=[]:=I.resolve_left (by simp)
  have g4:n.Form=[]:=J.resolve_left (by omega)
  have g5:n.Data=[]:=L.resolve_left (by omega)
  have g6:n.Ints=[]:=List.eq_nil_of_length_eq_zero (by omega)
  exact ⟨by rw [Z,g4,g5,g6]; rfl,by omega⟩
 ·intro m hw l
  show ∃ ds,Z26 ⟨n.Op - 2⟩ n _=_
  have j:=kf E hw
  rw [tN (fun a D=>by
   obtain ⟨t,r,rfl⟩:=List.mem_map.1 D
   have:=kF (j t r); unfold cI; omega)]
  have:n.Args.length≠2:=by
   intro e
   refine of_decide_eq_false l ?_
   simp only [Bool.false_or,Bool.and_eq_true,la,beq_iff_eq] at m
   refine ⟨by omega,by omega,.inr m.1.1.1,.inr m.1.2,.inr m.2,by omega,by rw [m.1.1.2]; decide⟩
  rw [if_neg (by simp [this])]
  exact ⟨_,rfl⟩
 ·intro l hw
  obtain ⟨f1,T,I,J,L,U,Y⟩:=of_decide_eq_true l
  have j:=kf E hw
  obtain ⟨A,B⟩:∃ A,A=n.Args.map fun a=>ix i a:=⟨_,rfl⟩
  have hl:A.length=2:=by rw [B]; simp; omega
  rw [← B] at j ⊢
  obtain ⟨t,u,rfl⟩:∃ t u,A=[t,u]:=by
   match A,hl with
   | [t,u],_=>exact ⟨t,u,rfl⟩
  have r:TT t:=j t (by simp)
  have O:TT u:=j u (by simp)
  have M:bV ⟨2,false,n.Op - 2,0,[]⟩ n ([t,u].map Tensor.Dims)=some (if t.Dims=u.Dims then (t.Dims,true) else ([],false)):=by
   rw [sh2,tN (fun a D=>by
    have:a=t.Dims∨a=u.Dims:=by simpa using D
    have:=kF r; have:=kF O
    unfold cI
    rcases ‹a=t.Dims∨a=u.Dims› with rfl | rfl<;>omega)]
   by_cases q:t.Dims=u.Dims
   ·rw [if_pos q,if_pos ⟨rfl,q⟩]; rfl
   ·rw [if_neg q,if_neg (fun z=>q z.2)]
  have b:Do n i=(Zv t.Dims u.Dims).bind fun F=>if (!F)=true then some ⟨[],[]⟩ else (Z12 (aK (aK (n.Op - 3)+1)) t u).bind fun G=>some G:=by
   unfold Do Z1
   rw [if_neg (by omega),← B,if_neg (by simp; omega)]
   rcases g with h | h | h
   ·rw [if_pos (by simp [h])]; simp only [Z1_J1,h]; rfl
   ·rw [if_neg (by simp [h]),if_pos (by simp [h])]; simp only [Z1_J1,h]; rfl
   ·rw [if_neg (by simp [h]),if_neg (by simp [h])]; simp only [Z1_J1,h]; rfl
  rw [pM (by have:=kF r; unfold cI; omega)] at b
  simp only [Option.bind_some] at b
  by_cases q:t.Dims=u.Dims
  ·rw [decide_eq_true q,if_neg (by simp)] at b
   have s:aK (aK (n.Op - 3)+1)=n.Op - 2:=by rw [bD (n:=n.Op - 3) (by omega) (by omega),bD (by omega) (by omega)]; omega
   rw [s] at b
   obtain ⟨d,d1,d2⟩:=Aq (op:=n.Op - 2) r O q (by omega) (by omega)
   rw [d1] at b
   exact ⟨⟨t.Dims,d⟩,.inl ⟨by rw [M,if_pos q],b,d2⟩⟩
  ·rw [decide_eq_false q,if_pos (by simp)] at b
   exact ⟨⟨[],[]⟩,.inr ⟨[],by rw [M,if_neg q],b⟩⟩
theorem iy {n:Node}{b:List Tensor}(D:Caps n b){kd:kindOfR}{u:aO}{B h:Bool}{ui uj:Int}(hk:Zw n.Op=some kd)(ht:Nat.beq kd.t 0=false)(hu:gE kd=some u)
  (h1:Z6 hL u=some B) (h2:Z6 fA u=some h) (h3:Z6 kq u=some false) (h4:Z6 oM u=some false)
  (g:Z17 n=some (decide (FM n 1 1 B ui uj))) (i:n.Op≠1∧n.Op≠2∧n.Op≠11) (L:h=false→ui=0∧uj=0)
  (sa:∀ args:List (List Int),args.length≠1→bV kd n args=some ([],false))
  (si:∀ t:Tensor,TT t→¬ (ui≤(n.Ints.length:Int)∧(n.Ints.length:Int)≤uj)→h=true→∃ ds,bV kd n [t.Dims]=some (ds,false))
  (r:FM n 1 1 B ui uj→∀ t:Tensor,TT t→(∃ s,bV kd n [t.Dims]=some (s.Dims,true)∧Z1 n [t]=some s∧TT s)∨∃ ds,bV kd n [t.Dims]=some (ds,false)∧Z1 n [t]=some ⟨[],[]⟩) :
  p8 n b (Zf n (b.map Tensor.Dims)):=by
 refine mZ D hk ht hu (l9 n u B h false false h1 h2 h3 h4) g ?_ ?_ ?_
 ·intro g
  obtain ⟨f1,M,G,I,J,O,T⟩:=of_decide_eq_true g
  have Y:n.Form=[]:=I.resolve_left i.2.2
  have Z:n.Data=[]:=J.resolve_left i.2.1
  refine ⟨?_,by omega⟩
  have g6:(h||((n.Ints.length:Int)==0))=true:=by
   cases h
   ·obtain ⟨rfl,rfl⟩:=L rfl
    have:n.Ints=[]:=List.eq_nil_of_length_eq_zero (by omega)
    rw [this]; rfl
   ·rfl
  have U:(B||((n.Dims.length:Int)==0))=true:=by
   rcases G with q | q
   ·rw [q]; rfl
   ·rw [q]; simp
  rw [U,g6,Y,Z]; rfl
 ·intro m hw g
  have l:=kf D hw
  by_cases e:n.Args.length=1
  ·obtain ⟨A,j⟩:∃ A,A=n.Args.map fun a=>ix b a:=⟨_,rfl⟩
   have F:A.length=1:=by rw [j]; simp [e]
   rw [← j] at l ⊢
   obtain ⟨t,rfl⟩:∃ t,A=[t]:=by
    match A,F with
    | [t],_=>exact ⟨t,rfl⟩
   simp only [Bool.false_or,Bool.and_eq_true,Bool.or_eq_true,la,beq_iff_eq] at m
   have no:¬ (ui≤(n.Ints.length:Int)∧(n.Ints.length:Int)≤uj):=by
    intro z
    exact of_decide_eq_false g ⟨by omega,by omega,m.1.1.1,.inr m.1.2,.inr m.2,z.1,z.2⟩
   cases h with
   | true=>exact si t (l t (by simp)) no rfl
   | false =>
    obtain ⟨rfl,rfl⟩:=L rfl
    have:n.Ints=[]:=by simpa using m.1.1.2
    exact absurd ⟨by omega,by rw [this]; decide⟩ no
  ·exact ⟨_,sa _ (by simpa using e)⟩
 ·intro g hw
  have hF:=of_decide_eq_true g
  obtain ⟨f1,M,G,I,J,O,T⟩:=hF
  have l:=kf D hw
  obtain ⟨A,j⟩:∃ A,A=n.Args.map fun a=>ix b a:=⟨_,rfl⟩
  have F:A.length=1:=by rw [j]; simp; omega
  have E:Do n b=Z1 n A:=by unfold Do; rw [if_neg i.1,j]
  rw [E]
  rw [← j] at l ⊢
  obtain ⟨t,rfl⟩:∃ t,A=[t]:=by
   match A,F with
   | [t],_=>exact ⟨t,rfl⟩
  rcases r (of_decide_eq_true g) t (l t (by simp)) with ⟨s,q⟩ | q
  ·exact ⟨s,.inl q⟩
  ·exact ⟨⟨[],[]⟩,.inr q⟩
theorem Ca (b i j s n args):bV ⟨3,b,i,j,s⟩ n args=Z2x ⟨i⟩ n args:=rfl
theorem BJ (b i j s n args):bV ⟨4,b,i,j,s⟩ n args=Z20 ⟨⟩ n args:=rfl
theorem wB (b i j s n args):bV ⟨6,b,i,j,s⟩ n args=Z1u ⟨s⟩ n args:=rfl
theorem Cb (b i j s n args):bV ⟨7,b,i,j,s⟩ n args=Z27 ⟨s⟩ n args:=rfl
theorem BK (b i j s n args):bV ⟨8,b,i,j,s⟩ n args=Z1q ⟨s⟩ i j n args:=rfl
theorem BL (b i j s n args):bV ⟨9,b,i,j,s⟩ n args=Z1r ⟨s⟩ i j n args:=rfl
theorem xU (b i j s n args):bV ⟨10,b,i,j,s⟩ n args=Z1s ⟨s⟩ i j n args:=rfl
theorem xV (b i j s n args):bV ⟨11,b,i,j,s⟩ n args=Z1t ⟨s⟩ i j n args:=rfl
theorem xW (n:Node)(t:Tensor)(h:6≤n.Op∧n.Op≤9):Z1 n [t]=(Z11 (aK (aK (n.Op - 6)+1)) t).bind fun r=>some r:=by
 have a:n.Op=6∨n.Op=7∨n.Op=8∨n.Op=9:=by omega
 unfold Z1
 rcases a with h | h | h | h<;>simp only [Z1_J1,Z1_J2,h]<;>rfl
theorem vr {n:Node}{b:List Tensor}(i:Caps n b)(h:6≤n.Op∧n.Op≤9):p8 n b (Zf n (b.map Tensor.Dims)):=by
 have a:n.Op=6∨n.Op=7∨n.Op=8∨n.Op=9:=by omega
 refine iy i (kd:=⟨3,false,n.Op - 5,0,[]⟩) (u:=[]) (ui:=0) (uj:=0) (by rcases a with h | h | h | h<;>rw [h]<;>rfl) rfl rfl tG tH tJ tK (gZ (by omega) (by omega) (by rcases a with h | h | h | h<;>rw [h]<;>rfl) (by rcases a with h | h | h | h<;>rw [h]<;>rfl) (by rcases a with h | h | h | h<;>rw [h]<;>rfl) (by rw [if_neg (by omega)]) ⟨by omega,by omega⟩) ⟨by omega,by omega,by omega⟩ (fun _=>⟨rfl,rfl⟩) ?_ ?_ ?_
 ·intro args l
  rw [Ca]; unfold Z2x
  rw [if_pos (by simp; omega)]
 ·intro _ _ _ g; cases g
 ·intro _ t j
  have e:aK (aK (n.Op - 6)+1)=n.Op - 5:=by rw [bD (n:=n.Op - 6) (by omega) (by omega),bD (by omega) (by omega)]; omega
  obtain ⟨d,d1,d2⟩:=Ap (op:=n.Op - 5) j (by omega) (by omega)
  exact .inl ⟨⟨t.Dims,d⟩,by rw [Ca]; rfl,by rw [xW n t h,e,d1]; rfl,d2⟩
theorem xX {n:Node}{b:List Tensor}(D:Caps n b)(h:n.Op=10):p8 n b (Zf n (b.map Tensor.Dims)):=by
 have g:∀ args:List (List Int),args.length≠1∨n.Ints.length≠1→Z20 ⟨⟩ n args=some ([],false):=by
  intro args i
  unfold Z20
  have e:(((args.length:Int) != 1)||((n.Ints.length:Int) != 1))=true:=by
   rcases i with q | q
   ·have:((args.length:Int) != 1)=true:=by simp; omega
    rw [this]; rfl
   ·have:((n.Ints.length:Int) != 1)=true:=by simp; omega
    rw [this]; simp
  rw [e,if_pos (fun z=>by cases z),if_pos (fun z=>by cases z)]
  simp [bR]
 refine iy D (kd:=⟨4,false,0,0,[]⟩) (u:=fA) (ui:=1) (uj:=1) (by rw [h]; rfl) rfl rfl kG kH kI kJ (gZ (by omega) (by omega) (by rw [h]; rfl) (by rw [h]; rfl) (by rw [h]; rfl) (by rw [if_neg (by omega)]) ⟨by omega,by omega⟩) ⟨by omega,by omega,by omega⟩ (fun B=>by cases B) ?_ ?_ ?_
 ·intro args i
  rw [BJ]; exact g args (.inl i)
 ·intro t _ U _
  rw [BJ]; exact ⟨_,g _ (.inr (by omega))⟩
 ·intro s t G
  obtain ⟨f1,I,J,L,M,O,T⟩:=s
  have E:n.Ints.length=1:=by omega
  have j:Z1 n [t]=(Zc t (ix n.Ints 0)).bind fun r=>some r:=by
   unfold Z1
   simp only [Z1_J1,Z1_J2,h]
   simp only [Int.reduceBEq,Bool.false_eq_true,if_false,if_true,beq_self_eq_true]
   rw [if_pos (by simp),if_pos (by omega)]
   rfl
  have F:Z20 ⟨⟩ n [t.Dims]=some (if 0≤ix n.Ints 0∧ix n.Ints 0<(t.Dims.length:Int) then (t.Dims,true) else ([],false)):=by
   unfold Z20
   have e:((([t.Dims].length:Int) != 1)||((n.Ints.length:Int) != 1))=false:=by simp [E]
   rw [e,if_pos (fun _=>by simp),if_pos (fun _=>by omega)]
   simp only [bR,Bool.not_false,cond_true,Zm,Option.bind_some,Bool.false_or]
   have m:ix [t.Dims] (0:Int)=t.Dims:=rfl
   rw [m]
   by_cases c:0≤ix n.Ints 0∧ix n.Ints 0<(t.Dims.length:Int)
   ·rw [if_pos c,if_neg (by simp; omega)]; simp
   ·rw [if_neg c,if_pos (by simp; omega)]
  rw [BJ,F,j]
  obtain ⟨a1,l⟩:=As (a:=ix n.Ints 0) G
  by_cases c:0≤ix n.Ints 0∧ix n.Ints 0<(t.Dims.length:Int)
  ·obtain ⟨d,d1,d2⟩:=a1 c
   exact .inl ⟨⟨t.Dims,d⟩,by rw [if_pos c],by rw [d1]; rfl,d2⟩
  ·exact .inr ⟨[],by rw [if_neg c],by rw [l c]; rfl⟩
theorem o5 {n:Node}{s:aO}{ds:List Int}{v:View}(h:Z1b n ds=some v)(e:VG v.Dims v.Strides v.Offset v.Base):Z1u ⟨s⟩ n [ds]=some (v.Dims,true):=by
 obtain ⟨ps,a⟩:=vh e
 unfold Z1u
 rw [if_neg (by simp),if_pos (by simp)]
 have b:ix [ds] (0:Int)=ds:=rfl
 unfold Z2t
 rw [b,h]
 simp only [Option.bind_some,a]
theorem lF {n:Node}{s:aO}{ds:List Int}(h:Z1b n ds=some dT):Z1u ⟨s⟩ n [ds]=some ([],false):=by
 unfold Z1u
 rw [if_neg (by simp),if_pos (by simp)]
 have a:ix [ds] (0:Int)=ds:=rfl
 unfold Z2t
 rw [a,h]
 simp only [Option.bind_some,Z2k]
 rw [show Zh dT=some false from vf]
 rfl
theorem m' {n:Node}{s:aO}{args:List (List Int)}(h:args.length≠1):Z1u ⟨s⟩ n args=some ([],false):=by
 unfold Z1u
 rw [if_pos (by simp; omega)]
theorem rP {n:Node}{e:List Tensor}(i:Caps n e)(h:n.Op=12):p8 n e (Zf n (e.map Tensor.Dims)):=by
 refine iy i (kd:=⟨6,false,0,0,hL⟩) (u:=hL) (ui:=0) (uj:=0) (by rw [h]; rfl) rfl rfl pT pU pV pW (gZ (by omega) (by omega) (by rw [h]; rfl) (by rw [h]; rfl) (by rw [h]; rfl) (by rw [if_neg (by omega)]) ⟨by omega,by omega⟩) ⟨by omega,by omega,by omega⟩ (fun _=>⟨rfl,rfl⟩) ?_ ?_ ?_
 ·intro args s; rw [wB]; exact m' s
 ·intro _ _ _ B; cases B
 ·intro _ t b
  have a:Z1 n [t]=(Zu t.Dims).bind fun j=>(Z03 j n.Dims).bind fun l=>(Z00 t l).bind fun m=>some m:=by
   unfold Z1
   simp only [Z1_J1,Z1_J2,h]
   simp only [Int.reduceBEq,Bool.false_eq_true,if_false,if_true,beq_self_eq_true]
   rw [if_pos (by simp)]
   rfl
  rw [kl b.d] at a
  simp only [Option.bind_some] at a
  rw [tw b.d i.d] at a
  simp only [Option.bind_some] at a
  have g:Z1b n t.Dims=(Z2i (b' t.Dims) n.Dims).bind fun r=>some r:=by
   unfold Z1b
   rw [l5 b.d]
   simp only [Option.bind_some]
   rw [if_pos (by simp [h])]
  rw [tx b.d i.d] at g
  simp only [Option.bind_some] at g
  rw [wB]
  by_cases c:eK n.Dims∧t.Dims.length≤n.Dims.length∧m7 t.Dims (n.Dims.drop (n.Dims.length - t.Dims.length))=true
  ·rw [if_pos c] at a g
   have q:VG n.Dims (jT t.Dims n.Dims) 0 (pr t.Dims):=nw b.d c.1 c.2.1
   obtain ⟨d,d1,d2⟩:=nZ (v:=⟨n.Dims,jT t.Dims n.Dims,0,pr t.Dims⟩) b q rfl
   rw [d1] at a
   exact .inl ⟨⟨n.Dims,d⟩,o5 g q,a,d2⟩
  ·rw [if_neg c] at a g
   rw [mo b] at a
   exact .inr ⟨[],lF g,a⟩
theorem pX {n:Node}{b:List Tensor}(g:Caps n b)(h:n.Op=13):p8 n b (Zf n (b.map Tensor.Dims)):=by
 refine iy g (kd:=⟨7,false,0,0,hL⟩) (u:=hL) (ui:=0) (uj:=0) (by rw [h]; rfl) rfl rfl pT pU pV pW (gZ (by omega) (by omega) (by rw [h]; rfl) (by rw [h]; rfl) (by rw [h]; rfl) (by rw [if_neg (by omega)]) ⟨by omega,by omega⟩) ⟨by omega,by omega,by omega⟩ (fun _=>⟨rfl,rfl⟩) ?_ ?_ ?_
 ·intro args B
  rw [Cb]; unfold Z27
  rw [if_pos (by simp; omega)]
 ·intro _ _ _ q; cases q
 ·intro _ t e
  have a:Z1 n [t]=(Zu t.Dims).bind fun j=>(Z09 j n.Dims).bind fun l=>(Z00 t l).bind fun m=>some m:=by
   unfold Z1
   simp only [Z1_J1,Z1_J2,h]
   simp only [Int.reduceBEq,Bool.false_eq_true,if_false,if_true,beq_self_eq_true]
   rw [if_pos (by simp)]
   rfl
  rw [kl e.d] at a
  simp only [Option.bind_some] at a
  rw [rM e.d g.d] at a
  simp only [Option.bind_some] at a
  obtain ⟨ps,i⟩:=mW (n:=n) e.d g.d
  have s:Z27 ⟨hL⟩ n [t.Dims]=(Z0z n t.Dims).bind fun r=>some (r.1,r.2.2):=by
   unfold Z27
   rw [if_neg (by simp),if_pos (by simp)]
   rfl
  rw [Cb,s,i]
  by_cases c:eK n.Dims∧pr n.Dims=pr t.Dims
  ·rw [if_pos c] at a ⊢
   obtain ⟨d,d1,d2⟩:=nZ (v:=b' n.Dims) e (j8 c.1) c.2
   rw [d1] at a
   exact .inl ⟨⟨n.Dims,d⟩,rfl,a,d2⟩
  ·rw [if_neg c] at a ⊢
   rw [mo e] at a
   exact .inr ⟨[],rfl,a⟩
theorem tO {n:Node}{i:List Tensor}(F:Caps n i)(h:n.Op=14):p8 n i (Zf n (i.map Tensor.Dims)):=by
 refine iy F (kd:=⟨6,false,0,0,fA⟩) (u:=fA) (ui:=4) (uj:=4) (by rw [h]; rfl) rfl rfl kG kH kI kJ (gZ (by omega) (by omega) (by rw [h]; rfl) (by rw [h]; rfl) (by rw [h]; rfl) (by rw [if_neg (by omega)]) ⟨by omega,by omega⟩) ⟨by omega,by omega,by omega⟩ (fun E=>by cases E) ?_ ?_ ?_
 ·intro args D; rw [wB]; exact m' D
 ·intro t b U _
  rw [wB]
  refine ⟨_,lF ?_⟩
  unfold Z1b
  rw [l5 b.d]
  simp only [Option.bind_some,h]
  have e:((n.Ints.length:Int)==4)=false:=by simp; omega
  rw [if_neg (by simp),e]
  simp [dT]
 ·intro B t b
  obtain ⟨f1,I,J,L,M,O,T⟩:=B
  have G:n.Ints.length=4:=by omega
  have a:Z1 n [t]=if ix n.Ints 3<1 then some ⟨[],[]⟩ else (Zu t.Dims).bind fun j=>(Z19 j (ix n.Ints 0) (ix n.Ints 1) (ix n.Ints 2) (ix n.Ints 3)).bind fun l=>(Z00 t l).bind fun m=>some m:=by
   unfold Z1
   simp only [Z1_J1,Z1_J2,h]
   simp only [Int.reduceBEq,Bool.false_eq_true,if_false,if_true,beq_self_eq_true]
   rw [if_pos (by omega)]
   by_cases c:ix n.Ints 3<1
   ·rw [if_pos (by simpa using c),if_pos c]
   ·rw [if_neg (by simpa using c),if_neg c,if_pos (by simp)]
    show (Zu t.Dims).bind _=_
    rw [kl b.d]
    simp only [Option.bind_some]
    rw [if_pos (by omega),if_pos (by omega),if_pos (by omega)]
    rfl
  have g:Z1b n t.Dims=if 1≤ix n.Ints 3 then (Z2h (b' t.Dims) (ix n.Ints 0) (ix n.Ints 1) (ix n.Ints 2) (ix n.Ints 3)).bind fun r=>some r else some dT:=by
   unfold Z1b
   rw [l5 b.d]
   simp only [Option.bind_some,h,G]
   rw [if_neg (by simp),if_pos (by simp)]
   by_cases c:1≤ix n.Ints 3
   ·rw [if_pos (by simp; omega),if_pos (by simp),if_pos (by simp),if_pos (by simp),if_pos (by simp),if_pos c]
   ·rw [if_neg (by simp; omega),if_neg (by simp),if_neg c]; rfl
  rw [wB]
  by_cases c:1≤ix n.Ints 3
  ·rw [if_neg (by omega),kl b.d] at a
   simp only [Option.bind_some] at a
   rw [vj b.d c] at a
   rw [if_pos c,vk b.d c] at g
   simp only [Option.bind_some] at a g
   by_cases q:m8 t.Dims (ix n.Ints 0) (ix n.Ints 1) (ix n.Ints 2) (ix n.Ints 3)
   ·rw [if_pos q] at a g
    have s:=nW b.d q
    obtain ⟨d,d1,d2⟩:=nZ b s rfl
    rw [d1] at a
    exact .inl ⟨⟨_,d⟩,o5 g s,a,d2⟩
   ·rw [if_neg q] at a g
    rw [mo b] at a
    exact .inr ⟨[],lF g,a⟩
  ·rw [if_pos (by omega)] at a
   rw [if_neg c] at g
   exact .inr ⟨[],lF g,a⟩
theorem rQ {n:Node}{g:List Tensor}(F:Caps n g)(h:n.Op=18):p8 n g (Zf n (g.map Tensor.Dims)):=by
 refine iy F (kd:=⟨6,false,0,0,fA⟩) (u:=fA) (ui:=3) (uj:=3) (by rw [h]; rfl) rfl rfl kG kH kI kJ (gZ (by omega) (by omega) (by rw [h]; rfl) (by rw [h]; rfl) (by rw [h]; rfl) (by rw [if_neg (by omega)]) ⟨by omega,by omega⟩) ⟨by omega,by omega,by omega⟩ (fun E=>by cases E) ?_ ?_ ?_
 ·intro args D; rw [wB]; exact m' D
 ·intro t b U _
  rw [wB]
  refine ⟨_,lF ?_⟩
  unfold Z1b
  rw [l5 b.d]
  simp only [Option.bind_some,h]
  have e:((n.Ints.length:Int)==3)=false:=by simp; omega
  rw [if_neg (by simp),e]
  simp [dT]
 ·intro B t b
  obtain ⟨f1,I,J,L,M,O,T⟩:=B
  have G:n.Ints.length=3:=by omega
  have a:Z1 n [t]=(Zu t.Dims).bind fun j=>(Z0c j (ix n.Ints 0) (ix n.Ints 1) (ix n.Ints 2)).bind fun l=>(Z00 t l).bind fun m=>some m:=by
   unfold Z1
   simp only [Z1_J1,Z1_J2,h]
   simp only [Int.reduceBEq,Bool.false_eq_true,if_false,if_true,beq_self_eq_true]
   rw [if_pos (by simp)]
   show (Zu t.Dims).bind _=_
   rw [kl b.d]
   simp only [Option.bind_some]
   rw [if_pos (by omega),if_pos (by omega),if_pos (by omega)]
   rfl
  have i:Z1b n t.Dims=(Z2j (b' t.Dims) (ix n.Ints 0) (ix n.Ints 1) (ix n.Ints 2)).bind fun r=>some r:=by
   unfold Z1b
   rw [l5 b.d]
   simp only [Option.bind_some,h,G]
   rw [if_neg (by simp),if_pos (fun z=>by simp at z),if_neg (by simp),if_pos (by simp),if_pos (by simp),if_pos (by simp),if_pos (by simp)]
  rw [wB]
  rw [kl b.d] at a
  simp only [Option.bind_some] at a
  rw [rJ b.d] at a
  rw [rK b.d] at i
  simp only [Option.bind_some] at a i
  by_cases q:m9 t.Dims (ix n.Ints 0) (ix n.Ints 1) (ix n.Ints 2)∧eK (gC t.Dims (ix n.Ints 0) (ix n.Ints 1) (ix n.Ints 2)).Dims
  ·rw [if_pos q] at a i
   have s:=pR b.d q.1 q.2
   obtain ⟨d,d1,d2⟩:=nZ b s rfl
   rw [d1] at a
   exact .inl ⟨⟨_,d⟩,o5 i s,a,d2⟩
  ·rw [if_neg q] at a i
   rw [mo b] at a
   exact .inr ⟨[],lF i,a⟩
theorem tP {s i j}{n:Node}{args:List (List Int)}(h:args.length≠1):Z1q s i j n args=some ([],false):=by
 unfold Z1q
 rw [if_pos (by simp; omega)]
theorem xY {s i j}{n:Node}{ds:List Int}(h:¬ (i≤(n.Ints.length:Int)∧(n.Ints.length:Int)≤j)):Z1q s i j n [ds]=some ([],false):=by
 unfold Z1q
 rw [if_neg (by simp),if_pos (by simp)]
 unfold Z2p
 rw [if_pos (by simp; omega)]
 rfl
theorem vt {s i j}{n:Node}{ds:List Int}(h:i≤(n.Ints.length:Int)∧(n.Ints.length:Int)≤j):Z1q s i j n [ds]=(Z21 n.Ints ds).bind fun r=>some (r.1,r.2.2):=by
 unfold Z1q
 rw [if_neg (by simp),if_pos (by simp)]
 unfold Z2p
 rw [if_neg (by simp; omega)]
 have a:ix [ds] (0:Int)=ds:=rfl
 rw [a]
 cases Z21 n.Ints ds<;>rfl
theorem tQ {s i j}{n:Node}{args:List (List Int)}(h:args.length≠1):Z1r s i j n args=some ([],false):=by
 unfold Z1r
 rw [if_pos (by simp; omega)]
theorem xZ {s i j}{n:Node}{ds:List Int}(h:¬ (i≤(n.Ints.length:Int)∧(n.Ints.length:Int)≤j)):Z1r s i j n [ds]=some ([],false):=by
 unfold Z1r
 rw [if_neg (by simp),if_pos (by simp)]
 unfold Z2q
 rw [if_pos (by simp; omega)]
 rfl
theorem vu {s i j}{n:Node}{ds:List Int}(h:i≤(n.Ints.length:Int)∧(n.Ints.length:Int)≤j):Z1r s i j n [ds]=(Z22 n.Ints ds).bind fun r=>some (r.1,r.2.2):=by
 unfold Z1r
 rw [if_neg (by simp),if_pos (by simp)]
 unfold Z2q
 rw [if_neg (by simp; omega)]
 have a:ix [ds] (0:Int)=ds:=rfl
 rw [a]
 cases Z22 n.Ints ds<;>rfl
theorem tR {s i j}{n:Node}{args:List (List Int)}(h:args.length≠1):Z1s s i j n args=some ([],false):=by
 unfold Z1s
 rw [if_pos (by simp; omega)]
theorem y0 {s i j}{n:Node}{ds:List Int}(h:¬ (i≤(n.Ints.length:Int)∧(n.Ints.length:Int)≤j)):Z1s s i j n [ds]=some ([],false):=by
 unfold Z1s
 rw [if_neg (by simp),if_pos (by simp)]
 unfold Z2r
 rw [if_pos (by simp; omega)]
 rfl
theorem vv {s i j}{n:Node}{ds:List Int}(h:i≤(n.Ints.length:Int)∧(n.Ints.length:Int)≤j):Z1s s i j n [ds]=(Z23 n.Ints ds).bind fun r=>some (r.1,r.2.2):=by
 unfold Z1s
 rw [if_neg (by simp),if_pos (by simp)]
 unfold Z2r
 rw [if_neg (by simp; omega)]
 have a:ix [ds] (0:Int)=ds:=rfl
 rw [a]
 cases Z23 n.Ints ds<;>rfl
theorem tS {s i j}{n:Node}{args:List (List Int)}(h:args.length≠1):Z1t s i j n args=some ([],false):=by
 unfold Z1t
 rw [if_pos (by simp; omega)]
theorem y6 {s i j}{n:Node}{ds:List Int}(h:¬ (i≤(n.Ints.length:Int)∧(n.Ints.length:Int)≤j)):Z1t s i j n [ds]=some ([],false):=by
 unfold Z1t
 rw [if_neg (by simp),if_pos (by simp)]
 unfold Z2s
 rw [if_pos (by simp; omega)]
 rfl
theorem vw {s i j}{n:Node}{ds:List Int}(h:i≤(n.Ints.length:Int)∧(n.Ints.length:Int)≤j):Z1t s i j n [ds]=(Z24 n.Ints ds).bind fun r=>some (r.1,r.2.2):=by
 unfold Z1t
 rw [if_neg (by simp),if_pos (by simp)]
 unfold Z2s
 rw [if_neg (by simp; omega)]
 have a:ix [ds] (0:Int)=ds:=rfl
 rw [a]
 cases Z24 n.Ints ds<;>rfl
theorem y7 {n:Node}{e:List Tensor}(I:Caps n e)(h:n.Op=15):p8 n e (Zf n (e.map Tensor.Dims)):=by
 refine iy I (kd:=⟨8,false,4,4,fA⟩) (u:=fA) (ui:=4) (uj:=4) (by rw [h]; rfl) rfl rfl kG kH kI kJ (gZ (by omega) (by omega) (by rw [h]; rfl) (by rw [h]; rfl) (by rw [h]; rfl) (by simp [h]) ⟨by omega,by omega⟩) ⟨by omega,by omega,by omega⟩ (fun G=>by cases G) ?_ ?_ ?_
 ·intro args F; rw [BK]; exact tP F
 ·intro t j L _; rw [BK]; exact ⟨_,xY L⟩
 ·intro E t j
  obtain ⟨f1,M,O,T,U,B,D⟩:=E
  have i:Z1 n [t]=(Z0t t (ix n.Ints 0) (ix n.Ints 1) (ix n.Ints 2) (ix n.Ints 3)).bind fun r=>some r:=by
   unfold Z1
   simp only [Z1_J1,Z1_J2,h]
   simp only [Int.reduceBEq,Bool.false_eq_true,if_false,if_true,beq_self_eq_true]
   rw [if_pos (by simp),if_pos (by omega),if_pos (by omega),if_pos (by omega),if_pos (by omega)]
   rfl
  have J:Z21 n.Ints t.Dims=(Zx t.Dims (ix n.Ints 0) (ix n.Ints 1) (ix n.Ints 2) (ix n.Ints 3)).bind fun r=>some (r.1,r.2.1,r.2.2):=by
   unfold Z21
   rw [if_pos (by omega),if_pos (by omega),if_pos (by omega),if_pos (by omega)]
  rw [BK,vt ⟨B,D⟩,J,i]
  obtain ⟨ds,ps,m,q⟩:Sh (Zx t.Dims (ix n.Ints 0) (ix n.Ints 1) (ix n.Ints 2) (ix n.Ints 3)) (mY t.Dims (ix n.Ints 0) (ix n.Ints 1) (ix n.Ints 2) (ix n.Ints 3)) (t.Dims.set (ix n.Ints 0).toNat (jX t.Dims (ix n.Ints 0) (ix n.Ints 1) (ix n.Ints 2) (ix n.Ints 3))):=At j.d
  obtain ⟨a1,l⟩:=Ar (a:=ix n.Ints 0) (b:=ix n.Ints 1) (f:=ix n.Ints 2) (g:=ix n.Ints 3) j
  rw [m]
  by_cases c:mY t.Dims (ix n.Ints 0) (ix n.Ints 1) (ix n.Ints 2) (ix n.Ints 3)
  ·obtain ⟨d,d1,d2⟩:=a1 c
   have s:=q c
   rw [d1,decide_eq_true c]
   subst s
   exact .inl ⟨⟨_,d⟩,rfl,rfl,d2⟩
  ·rw [l c,decide_eq_false c]
   exact .inr ⟨ds,rfl,rfl⟩
theorem rR {n:Node}{b:List Tensor}(e:Caps n b)(h:n.Op=16):p8 n b (Zf n (b.map Tensor.Dims)):=by
 refine iy e (kd:=⟨9,false,1,4097,fA⟩) (u:=fA) (ui:=1) (uj:=4097) (by rw [h]; rfl) rfl rfl kG kH kI kJ (gZ (by omega) (by omega) (by rw [h]; rfl) (by rw [h]; rfl) (by rw [h]; rfl) (by simp [h]) ⟨by omega,by omega⟩) ⟨by omega,by omega,by omega⟩ (fun G=>by cases G) ?_ ?_ ?_
 ·intro args F; rw [BL]; exact tQ F
 ·intro t j J _; rw [BL]; exact ⟨_,xZ J⟩
 ·intro E t j
  obtain ⟨f1,L,M,O,T,B,D⟩:=E
  have g:Z1 n [t]=(Z0s t (ix n.Ints 0) (n.Ints.drop 1)).bind fun r=>some r:=by
   unfold Z1
   simp only [Z1_J1,Z1_J2,h]
   simp only [Int.reduceBEq,Bool.false_eq_true,if_false,if_true,beq_self_eq_true]
   rw [if_pos (by simp),if_pos (by omega),if_pos (by omega),iw]
   rfl
  have I:Z22 n.Ints t.Dims=(Z0d t.Dims (ix n.Ints 0) (n.Ints.drop 1)).bind fun r=>some (r.1,r.2.1,r.2.2):=by
   unfold Z22
   rw [if_pos (by omega),if_pos (by omega),iw]
   rfl
  rw [BL,vu ⟨B,D⟩,I,g]
  obtain ⟨ds,ps,m,q⟩:Sh (Z0d t.Dims (ix n.Ints 0) (n.Ints.drop 1)) (mX t.Dims (ix n.Ints 0) (n.Ints.drop 1)) (t.Dims.set (ix n.Ints 0).toNat ((n.Ints.drop 1).length:Int)):=tF j.d (by have:=e.i; simp; omega)
  obtain ⟨a1,l⟩:=tD (a:=ix n.Ints 0) (xs:=n.Ints.drop 1) j (by have:=e.i; simp; omega)
  rw [m]
  by_cases c:mX t.Dims (ix n.Ints 0) (n.Ints.drop 1)
  ·obtain ⟨d,d1,d2⟩:=a1 c
   have s:=q c
   rw [d1,decide_eq_true c]
   subst s
   exact .inl ⟨⟨_,d⟩,rfl,rfl,d2⟩
  ·rw [l c,decide_eq_false c]
   exact .inr ⟨ds,rfl,rfl⟩
theorem pY {n:Node}{b:List Tensor}(e:Caps n b)(h:n.Op=17):p8 n b (Zf n (b.map Tensor.Dims)):=by
 refine iy e (kd:=⟨10,false,2,4098,fA⟩) (u:=fA) (ui:=2) (uj:=4098) (by rw [h]; rfl) rfl rfl kG kH kI kJ (gZ (by omega) (by omega) (by rw [h]; rfl) (by rw [h]; rfl) (by rw [h]; rfl) (by simp [h]) ⟨by omega,by omega⟩) ⟨by omega,by omega,by omega⟩ (fun G=>by cases G) ?_ ?_ ?_
 ·intro args F; rw [xU]; exact tR F
 ·intro t j J _; rw [xU]; exact ⟨_,y0 J⟩
 ·intro E t j
  obtain ⟨f1,L,M,O,T,B,D⟩:=E
  have g:Z1 n [t]=(Z0u t (ix n.Ints 0) (n.Ints.drop 2) (ix n.Ints 1)).bind fun r=>some r:=by
   unfold Z1
   simp only [Z1_J1,Z1_J2,h]
   simp only [Int.reduceBEq,Bool.false_eq_true,if_false,if_true,beq_self_eq_true]
   rw [if_pos (by simp),if_pos (by omega),if_pos (by omega),if_pos (by omega),iw]
   rfl
  have I:Z23 n.Ints t.Dims=(Z0e t.Dims (ix n.Ints 0) (n.Ints.drop 2) (ix n.Ints 1)).bind fun r=>some (r.1,r.2.1,r.2.2):=by
   unfold Z23
   rw [if_pos (by omega),if_pos (by omega),if_pos (by omega),iw]
   rfl
  rw [xU,vv ⟨B,D⟩,I,g]
  obtain ⟨ds,ps,m,q⟩:Sh (Z0e t.Dims (ix n.Ints 0) (n.Ints.drop 2) (ix n.Ints 1)) (ma t.Dims (ix n.Ints 0) (n.Ints.drop 2) (ix n.Ints 1)) (t.Dims.set (ix n.Ints 0).toNat (ix n.Ints 1)):=rO j.d (by have:=e.i; simp; omega)
  obtain ⟨a1,l⟩:=rN (a:=ix n.Ints 0) (n:=ix n.Ints 1) (xs:=n.Ints.drop 2) j (by have:=e.i; simp; omega)
  rw [m]
  by_cases c:ma t.Dims (ix n.Ints 0) (n.Ints.drop 2) (ix n.Ints 1)
  ·obtain ⟨d,d1,d2⟩:=a1 c
   have s:=q c
   rw [d1,decide_eq_true c]
   subst s
   exact .inl ⟨⟨_,d⟩,rfl,rfl,d2⟩
  ·rw [l c,decide_eq_false c]
   exact .inr ⟨ds,rfl,rfl⟩
theorem vx {n:Node}{b:List Tensor}(F:Caps n b)(h:n.Op=19):p8 n b (Zf n (b.map Tensor.Dims)):=by
 refine iy F (kd:=⟨11,false,3,3,fA⟩) (u:=fA) (ui:=3) (uj:=3) (by rw [h]; rfl) rfl rfl kG kH kI kJ (gZ (by omega) (by omega) (by rw [h]; rfl) (by rw [h]; rfl) (by rw [h]; rfl) (by simp [h]) ⟨by omega,by omega⟩) ⟨by omega,by omega,by omega⟩ (fun E=>by cases E) ?_ ?_ ?_
 ·intro args D; rw [xV]; exact tS D
 ·intro t g I _; rw [xV]; exact ⟨_,y6 I⟩
 ·intro B t g
  obtain ⟨f1,J,L,M,O,q,s⟩:=B
  have e:Z1 n [t]=(Z0r t (ix n.Ints 0) (ix n.Ints 1) (ix n.Ints 2)).bind fun r=>some r:=by
   unfold Z1
   simp only [Z1_J1,Z1_J2,h]
   simp only [Int.reduceBEq,Bool.false_eq_true,if_false,if_true,beq_self_eq_true]
   rw [if_pos (by simp),if_pos (by omega),if_pos (by omega),if_pos (by omega)]
   rfl
  have G:Z24 n.Ints t.Dims=(Z4 t.Dims (ix n.Ints 0) (ix n.Ints 1) (ix n.Ints 2)).bind fun r=>some (r.1,r.2.1,r.2.2):=by
   unfold Z24
   rw [if_pos (by omega),if_pos (by omega),if_pos (by omega)]
  rw [xV,vw ⟨q,s⟩,G,e]
  obtain ⟨ds,ps,j,l⟩:Sh (Z4 t.Dims (ix n.Ints 0) (ix n.Ints 1) (ix n.Ints 2)) (mc t.Dims (ix n.Ints 0) (ix n.Ints 1) (ix n.Ints 2)) ((t.Dims.set (ix n.Ints 0).toNat (ix n.Ints 2)).take (t.Dims.length - 1)):=xJ g.d
  obtain ⟨a1,i⟩:=xH (a:=ix n.Ints 0) (st:=ix n.Ints 1) (n:=ix n.Ints 2) g
  rw [j]
  by_cases c:mc t.Dims (ix n.Ints 0) (ix n.Ints 1) (ix n.Ints 2)
  ·obtain ⟨d,d1,d2⟩:=a1 c
   have m:=l c
   rw [d1,decide_eq_true c]
   subst m
   exact .inl ⟨⟨_,d⟩,rfl,rfl,d2⟩
  ·rw [i c,decide_eq_false c]
   exact .inr ⟨ds,rfl,rfl⟩
def LT (s:aO):Prop:=s.length≤6∧∀ c∈s,97≤c.toNat∧c.toNat≤122
instance (s:aO):Decidable (LT s):=by unfold LT; infer_instance
theorem nA {s:aO}(b:s.length<cI):Z0w s=some (decide (LT s)):=by
 unfold Z0w
 have:=eW s (fun i:Int=>Z0w_L1 s i) (fun i=>i) (fun c=>decide (97≤c.toNat∧c.toNat≤122)) (.inl false) (.inr ())
  (fun k g=>by
   have a:bt s (k:Int)=((ix s (k:Int)).toNat:Int):=rfl
   simp only [Z0w_L1]
   rw [if_pos (by simp; omega),if_pos (by omega),cH (by omega)]
   by_cases q:97≤(ix s (k:Int)).toNat∧(ix s (k:Int)).toNat≤122
   ·rw [if_neg (by simp only [Bool.or_eq_true,decide_eq_true_eq,a]; omega),decide_eq_true q,if_pos rfl]
   ·rw [if_pos (by simp only [Bool.or_eq_true,decide_eq_true_eq,a]; omega),decide_eq_false q,if_neg (by simp)])
  (by simp only [Z0w_L1]; rw [if_neg (by simp)])
 rw [this]
 have e:(s.all fun c=>decide (97≤c.toNat∧c.toNat≤122))=decide (∀ c∈s,97≤c.toNat∧c.toNat≤122):=by
  rw [Bool.eq_iff_iff]
  simp only [List.all_eq_true,decide_eq_true_eq]
 rw [e]
 by_cases c:∀ c∈s,97≤c.toNat∧c.toNat≤122
 ·rw [decide_eq_true c,if_pos rfl]
  show some (decide ((s.length:Int)≤6))=_
  congr 1
  rw [Bool.eq_iff_iff]
  simp only [decide_eq_true_eq]
  exact ⟨fun h=>⟨by omega,c⟩,fun h=>by have:=h.1; omega⟩
 ·rw [decide_eq_false c,decide_eq_false (fun z:LT s=>c z.2)]; rfl
theorem lb {a b:UInt8}:((a.toNat:Int)==(b.toNat:Int))=decide (a=b):=by
 rw [Bool.eq_iff_iff]
 simp only [beq_iff_eq,decide_eq_true_eq]
 exact ⟨fun h=>UInt8.toNat_inj.1 (by omega),fun h=>by rw [h]⟩
theorem wC {s:aO}(h:s.length<cI)(b:UInt8):Z0v s (b.toNat:Int)=some (decide (b∈s)):=by
 unfold Z0v
 have:=eW s (fun i:Int=>Z0v_L1 s (b.toNat:Int) i) (fun i=>i) (fun c=>!(decide (c=b))) (.inl true) (.inr ())
  (fun k j=>by
   have a:(bt s (k:Int)==(b.toNat:Int))=decide (ix s (k:Int)=b):=lb
   simp only [Z0v_L1]
   rw [if_pos (by simp; omega),if_pos (by omega),cH (by omega),a]
   cases decide (ix s (k:Int)=b)<;>rfl)
  (by simp only [Z0v_L1]; rw [if_neg (by simp)])
 rw [this]
 by_cases c:b∈s
 ·have e:(s.all fun c=>!(decide (c=b)))=false:=by
   rw [List.all_eq_false]; exact ⟨b,c,by simp⟩
  rw [e,decide_eq_true c]; rfl
 ·have e:(s.all fun c=>!(decide (c=b)))=true:=by
   rw [List.all_eq_true]; intro x g
   have:x≠b:=fun q=>c (q▸g)
   simp [this]
  rw [e,decide_eq_false c]; rfl
theorem rS (c:UInt8):((c.toNat:Int)).toNat.toUInt8=c:=by
 rw [Int.toNat_natCast]
 exact UInt8.ofNat_toNat
theorem tT (s:aO)(c:UInt8):(Lib.indexByte s c<0)↔c ∉ s:=by
 induction s with
 | nil=>simp [Lib.indexByte]
 | cons b l ih =>
  unfold Lib.indexByte
  by_cases e:b=c
  ·subst e; simp
  ·have a:(b==c)=false:=by simpa using e
   have:=Lib.indexByte_ge l c
   rw [a]
   simp only [Bool.false_eq_true,if_false,List.mem_cons,not_or]
   rw [← ih]
   by_cases q:Lib.indexByte l c = -1
   ·rw [q]; simp; exact fun z=>e z.symm
   ·rw [if_neg (by simpa using q)]
    exact ⟨fun z=>by omega,fun z=>by omega⟩
theorem o6 (s:aO)(c:UInt8):∃ r,Z1w s (c.toNat:Int)=some r∧(r<0↔c ∉ s):=by
 unfold Z1w dH
 rw [rS]
 exact ⟨_,rfl,tT s c⟩
def pZ:aO→Option (aO×aO)
 | []=>none
 | [_]=>none
 | x::y::r=>if x=45∧y=62 then some ([],r) else (pZ (y::r)).map fun p=>(x::p.1,p.2)
def ce:aO→Nat
 | []=>0
 | [_]=>0
 | x::y::r=>if x=45∧y=62 then 0 else ce (y::r)+1
theorem lc:∀ {s l o:aO},pZ s=some (l,o)→ce s=l.length∧s=l++45::62::o
 | [],_,_,h=>by cases h
 | [_],_,_,h=>by cases h
 | x::y::r,l,o,h=>by
  unfold pZ at h; unfold ce
  by_cases c:x=45∧y=62
  ·rw [if_pos c] at h ⊢
   obtain ⟨rfl,rfl⟩:=c
   cases h
   exact ⟨rfl,rfl⟩
  ·rw [if_neg c] at h ⊢
   obtain ⟨⟨e,o'⟩,h1,h2⟩:=Option.map_eq_some_iff.1 h
   cases h2
   obtain ⟨a,b⟩:=lc h1
   exact ⟨by rw [a]; rfl,by rw [b]; rfl⟩
theorem re:∀ {s:aO},pZ s=none→s.length≤ce s+1
 | [],h=>by simp
 | [_],h=>by simp
 | x::y::r,h=>by
  unfold pZ at h; unfold ce
  by_cases c:x=45∧y=62
  ·rw [if_pos c] at h; cases h
  ·rw [if_neg c] at h ⊢
   have:=re (s:=y::r) (by simpa using h)
   simp at this ⊢; omega
theorem rf:∀ {s:aO} {j:Nat},j<ce s→j+1<s.length∧(s.drop j).take 2≠[45,62]
 | [],_,h=>by simp [ce] at h
 | [_],_,h=>by simp [ce] at h
 | x::y::r,j,h=>by
  unfold ce at h
  by_cases c:x=45∧y=62
  ·rw [if_pos c] at h; omega
  ·rw [if_neg c] at h
   cases j with
   | zero=>exact ⟨by simp,by simpa using c⟩
   | succ j =>
    obtain ⟨a,b⟩:=rf (s:=y::r) (j:=j) (by omega)
    exact ⟨by simp at a ⊢; omega,by simpa using b⟩
theorem wD:∀ {s:aO},ce s+1<s.length→(s.drop (ce s)).take 2=[45,62]
 | [],h=>by simp at h
 | [_],h=>by simp [ce] at h
 | x::y::r,h=>by
  unfold ce at h ⊢
  by_cases c:x=45∧y=62
  ·rw [if_pos c]; obtain ⟨rfl,rfl⟩:=c; rfl
  ·rw [if_neg c] at h ⊢
   have:=wD (s:=y::r) (by simp at h ⊢; omega)
   simpa using this
theorem nB:∀ (s:aO),Lib.index s str0=match pZ s with | some p=>(p.1.length:Int) | none => -1
 | []=>rfl
 | [x]=>by
  unfold Lib.index pZ
  simp [str0,Lib.index]
 | x::y::r=>by
  unfold Lib.index pZ
  by_cases c:x=45∧y=62
  ·obtain ⟨rfl,rfl⟩:=c
   rw [if_pos (by simp [str0]),if_pos ⟨rfl,rfl⟩]; rfl
  ·rw [if_neg (by simp [str0]; intro a b; exact c ⟨a.symm,b.symm⟩),if_neg c,nB (y::r)]
   cases pZ (y::r) with
   | none=>rfl
   | some p =>
    simp only [Option.map_some]
    rw [if_neg (by simp)]
    simp
def pre (p:aO):List aO→List aO
 | []=>[p]
 | g::gs=>(p++g)::gs
def gD:aO→List aO
 | []=>[[]]
 | x::r=>if x=44 then []::gD r else pre [x] (gD r)
theorem ld (x:UInt8)(r:aO):gD (x::r)=if x=44 then []::gD r else pre [x] (gD r):=rfl
theorem y8 (p:aO)(gs:List aO):pre p gs≠[]:=by cases gs<;>simp [pre]
theorem lG (s:aO):gD s≠[]:=by
 cases s with
 | nil=>simp [gD]
 | cons x r=>unfold gD; split; simp; exact y8 _ _
theorem rh {gs:List aO}(h:gs≠[]):pre [] gs=gs:=by
 cases gs with
 | nil=>exact absurd rfl h
 | cons g gs=>rfl
theorem vy (p q:aO)(gs:List aO):pre p (pre q gs)=pre (p++q) gs:=by
 cases gs<;>simp [pre]
theorem vC (s:aO):(gD s).length=s.count 44+1:=by
 induction s with
 | nil=>rfl
 | cons x r ih =>
  unfold gD
  by_cases c:x=44
  ·subst c; simp [ih]
  ·rw [if_neg c,List.count_cons_of_ne (fun z=>c z)]
   cases h:gD r with
   | nil=>exact absurd h (lG r)
   | cons g gs=>rw [h] at ih; simpa [pre] using ih
theorem y9 {s:aO}(h:s.count 44=0):gD s=[s]:=by
 induction s with
 | nil=>rfl
 | cons x r ih =>
  have c:x≠44:=by intro q; subst q; simp at h
  rw [List.count_cons_of_ne (fun z=>c z)] at h
  unfold gD
  rw [if_neg c,ih h]; rfl
theorem vD (s:aO)(c:UInt8)(a:c≠44):(∃ g∈gD s,c∈g)↔c∈s:=by
 induction s with
 | nil=>simp [gD]
 | cons x r ih =>
  unfold gD
  by_cases q:x=44
  ·subst q
   rw [if_pos rfl]
   simp [a,ih]
  ·rw [if_neg q,List.mem_cons,← ih]
   cases h:gD r with
   | nil=>exact absurd h (lG r)
   | cons g gs=>simp [pre,or_assoc]
theorem wE:∀ {x:aO},x.count 44≠0→∃ g r,x=g++44::r∧Lib.index x str6=(g.length:Int)∧gD x=g::gD r∧x.count 44=r.count 44+1
 | [],h=>by simp at h
 | b::l,h=>by
  by_cases c:b=44
  ·subst c
   exact ⟨[],l,rfl,by unfold Lib.index; simp [str6],by rw [ld,if_pos rfl],by simp⟩
  ·rw [List.count_cons_of_ne (fun z=>c z)] at h
   obtain ⟨g,r,h1,h2,a,e⟩:=wE h
   refine ⟨b::g,r,by rw [h1]; rfl,?_,?_,?_⟩
   ·unfold Lib.index
    rw [if_neg (by simp [str6]; exact fun z=>c z.symm),h2,if_neg (by simp)]
    simp
   ·rw [ld,if_neg c,a]; rfl
   ·rw [List.count_cons_of_ne (fun z=>c z)]; exact e
theorem vE {p:aO}(I:p.length≤1048576):Z37 p str6=some (gD p):=by
 have Y:p.count 44≤p.length:=List.count_le_length
 have m:(if (aK ((p.length:Int)+1))<((p.count 44+1:Nat):Int) then (aK ((p.length:Int)+1)) else ((p.count 44+1:Nat):Int))=((p.count 44+1:Nat):Int):=by
  rw [cH (by unfold cI; omega),if_neg (by omega)]
 have hw:aK (((p.count 44+1:Nat):Int) - 1)=(p.count 44:Int):=by rw [bD (by omega) (by omega)]; omega
 unfold Z37 Z0j
 rw [if_neg (by decide),if_neg (by simp [str6]),if_pos (by decide)]
 have h:Z3f p str6=some (p.count 44:Int):=rfl
 rw [h]
 simp only [Option.bind_some]
 rw [cH (by unfold cI; omega)]
 unfold Z0j_J2
 rw [m,if_pos (by omega),Int.toNat_natCast]
 obtain ⟨e,J,M⟩:=iK (f:=fun s:aO×List aO×Int=>Z0j_L1 p str6 0 ((p.count 44+1:Nat):Int) s.1 s.2.1 s.2.2)
  (fun j s=>s.2.2=(j:Int)∧s.2.1.length=p.count 44+1∧s.2.1.take j++gD s.1=gD p∧s.1.count 44+j=p.count 44∧s.1.length≤1048576) (p.count 44)
  (Post:=fun e=>e.2.2=(p.count 44:Int)∧e.2.1.length=p.count 44+1∧e.2.1.take (p.count 44)++[e.1]=gD p)
  (fun j s Z B=>by
   obtain ⟨x,a,i⟩:=s
   obtain ⟨h1,h2,b,q,u⟩:=B
   simp only at h1 h2 b q u
   subst h1
   obtain ⟨g,r,g1,F,G,U⟩:=wE (x:=x) (by omega)
   have hx:x.length=g.length+1+r.length:=by rw [g1]; simp; omega
   have L:Z2g x str6=some (g.length:Int):=by
    unfold Z2g cV
    rw [if_pos (by omega),F]; rfl
   have O:aK ((g.length:Int)+0)=(g.length:Int):=by rw [bD (by omega) (by omega)]; omega
   have T:aK ((g.length:Int)+((str6.length:Nat):Int))=((g.length+1:Nat):Int):=by
    show aK ((g.length:Int)+1)=_
    exact cH (by unfold cI; omega)
   refine ⟨(r,a.set j g,((j+1:Nat):Int)),?_,rfl,by simpa using h2,?_,by show r.count 44+(j+1)=_; omega,by show r.length≤_; omega⟩
   ·simp only [Z0j_L1]
    rw [m,hw,if_pos (by simp; omega),L]
    simp only [Option.bind_some]
    rw [if_neg (by simp),O,if_pos (by omega),if_pos (by simp; omega)]
    have D:sub x 0 (g.length:Int)=g:=by rw [l8,g1]; simp
    have E:sub x ((g.length+1:Nat):Int) (x.length:Int)=r:=by rw [iw,Int.toNat_natCast,g1,List.drop_append]; simp
    rw [T,D,Int.toNat_natCast]
    simp only [nm,Option.bind_some]
    rw [if_pos (by omega),E,cH (by unfold cI; omega)]
   ·rw [← b,G,List.take_set]
    have l:j<a.length:=by omega
    rw [List.take_succ_eq_append_getElem l,List.set_append_right _ _ (by simp; omega)]
    simp [Nat.min_eq_left (Nat.le_of_lt l)]
    )
  (fun s B=>by
   obtain ⟨x,a,i⟩:=s
   obtain ⟨h1,h2,b,q,u⟩:=B
   simp only at h1 h2 b q u
   subst h1
   rw [y9 (by omega)] at b
   refine ⟨(x,a,(p.count 44:Int)),?_,rfl,h2,b⟩
   simp only [Z0j_L1]
   rw [m,hw,if_neg (by simp)])
  (s:=(p,List.replicate (p.count 44+1) [],0)) ⟨rfl,by simp,by simp,by simp,I⟩
 rw [J]
 obtain ⟨x,a,i⟩:=e
 obtain ⟨h1,h2,b⟩:=M
 simp only at h1 h2 b
 subst h1
 simp only [Option.bind_some,Z0j_J3]
 rw [m,if_pos (by simp; omega),cH (by unfold cI; omega),if_pos (by simp; omega),Int.toNat_natCast]
 simp only [Option.bind_some]
 congr 1
 rw [l8,List.take_set,← b]
 have l:p.count 44<a.length:=by omega
 rw [List.take_succ_eq_append_getElem l,List.set_append_right _ _ (by simp; omega)]
 simp [Nat.min_eq_left (Nat.le_of_lt l)]
def OL (gs:List aO)(o:aO)(i:Nat):Prop:=(∃ g∈gs,ix o (i:Int)∈g)∧ix o (i:Int) ∉ o.take i
instance (gs:List aO)(o:aO)(i:Nat):Decidable (OL gs o i):=by unfold OL; infer_instance
def PO (gs:List aO)(o:aO):Prop:=gs.length≤6∧LT o∧(∀ g∈gs,LT g)∧∀ i∈List.range o.length,OL gs o i
instance (gs:List aO)(o:aO):Decidable (PO gs o):=by unfold PO; infer_instance
def parts (form:aO):List aO×aO×Bool:=match pZ form with
 | none=>([],[],false)
 | some p=>if PO (gD p.1) p.2 then (gD p.1,p.2,true) else ([],[],false)
theorem BM {form:aO}(i:form.length≤1048576):aW (fun s:Int=>Z0_L1 form s) 0=some (ce form:Int):=by
 have w:∀ j:Nat,j≤1048576→aK ((j:Int)+1)=((j+1:Nat):Int)∧aK ((j:Int)+2)=((j+2:Nat):Int):=by
  intro j e
  exact ⟨cH (by unfold cI; omega),by rw [bD (by omega) (by omega)]; omega⟩
 have g:∀ j:Nat,sub form (j:Int) ((j+2:Nat):Int)=(form.drop j).take 2:=by
  intro j
  unfold sub
  rw [Int.toNat_natCast,Int.toNat_natCast,List.drop_take]
  congr 1; omega
 have h:ce form≤form.length:=by
  by_cases c:ce form=0
  ·omega
  ·have:=(rf (s:=form) (j:=ce form - 1) (by omega)).1; omega
 refine fD (f:=fun s:Int=>Z0_L1 form s) (fun j=>(j:Int)) (ce form) (fun j e=>?_) ?_ rfl
 ·obtain ⟨a,b⟩:=rf e
  simp only [Z0_L1]
  rw [(w j (by omega)).1,(w j (by omega)).2,g,if_pos (fun _=>by omega),if_pos]
  simp only [Bool.and_eq_true,decide_eq_true_eq,Bool.not_eq_true',beq_eq_false_iff_ne]
  exact ⟨by omega,b⟩
 ·simp only [Z0_L1]
  rw [(w _ (by omega)).1,(w _ (by omega)).2,g]
  by_cases c:ce form+1<form.length
  ·rw [if_pos (fun _=>by omega),if_neg]
   rw [wD c]; simp [str0]
  ·rw [if_pos (fun z=>by simp at z; omega),if_neg]
   simp only [Bool.and_eq_true,decide_eq_true_eq]
   omega
theorem tU {form l o:aO}(Y:form.length≤1048576)(h:pZ form=some (l,o)):aW (fun s:List aO×Int×Int=>Z0_L2 form (l.length:Int) s.1 s.2.1 s.2.2) ([],0,0)=some (gD l):=by
 obtain ⟨U,B⟩:=lc h
 have hl:form.length=l.length+2+o.length:=by rw [B]; simp; omega
 obtain ⟨r,T,O⟩:=iK (f:=fun s:List aO×Int×Int=>Z0_L2 form (l.length:Int) s.1 s.2.1 s.2.2)
  (fun j s=>s.2.2=(j:Int)∧s.1.length≤j∧((∃ F:Nat,F≤j∧s.2.1=(F:Int)∧j≤l.length∧s.1++pre ((l.take j).drop F) (gD (l.drop j))=gD l)∨(j=l.length+1∧s.1=gD l))) (l.length+1)
  (Post:=fun r=>r=gD l)
  (fun j s Z D=>by
   obtain ⟨gs,g,i⟩:=s
   obtain ⟨h1,h2,u⟩:=D
   simp only at h1 h2 u
   subst h1
   rcases u with ⟨F,f1,I,J,e⟩|⟨q,_⟩
   ·subst I
    have L:sub form (F:Int) (j:Int)=(l.take j).drop F:=by
     unfold sub
     rw [Int.toNat_natCast,Int.toNat_natCast,B,List.take_append_of_le_length J]
    simp only [Z0_L2]
    rw [if_pos (by simp; omega),if_pos (fun _=>by omega)]
    by_cases c:j=l.length
    ·rw [if_pos (by simp [c]),if_pos (by omega),L,if_pos (by simp; omega)]
     simp only [Z0_J3]
     refine ⟨_,by rw [cH (by unfold cI; omega)],rfl,by simp; omega,.inr ⟨by omega,?_⟩⟩
     subst c
     rw [List.drop_length] at e
     simpa [gD,pre] using e
    ·have m:j<l.length:=by omega
     have M:l.drop j=l[j]::l.drop (j+1):=List.drop_eq_getElem_cons m
     have E:(bt form (j:Int)==44)=decide (l[j]=44):=by
      have:ix form (j:Int)=l[j]:=by
       rw [cD (by omega)]
       simp only [B]
       rw [List.getElem_append_left m]
      unfold bt
      rw [this]
      have:=lb (a:=l[j]) (b:=44)
      simpa using this
     have G:((j:Int)==(l.length:Int))=false:=by simp; omega
     rw [E,G,Bool.false_or]
     rw [M,ld] at e
     by_cases q:l[j]=44
     ·rw [decide_eq_true q,if_pos rfl,if_pos (by omega),L,if_pos (by simp; omega)]
      simp only [Z0_J3]
      rw [cH (by unfold cI; omega)]
      refine ⟨_,rfl,rfl,by simp; omega,.inl ⟨j+1,Nat.le_refl _,rfl,by omega,?_⟩⟩
      rw [if_pos q] at e
      have z:List.drop (j+1) (List.take (j+1) l)=[]:=List.drop_of_length_le (by simp; omega)
      rw [z,rh (lG _),← e]
      simp [pre]
     ·rw [decide_eq_false q,if_neg (by simp)]
      simp only [Z0_J3]
      rw [cH (by unfold cI; omega)]
      refine ⟨_,rfl,rfl,by show gs.length≤_; omega,.inl ⟨F,by omega,rfl,by omega,?_⟩⟩
      rw [if_neg q,vy] at e
      rw [← e,List.take_succ_eq_append_getElem m,List.drop_append_of_le_length (by simp; omega)]
   ·omega)
  (fun s D=>by
   obtain ⟨gs,g,i⟩:=s
   obtain ⟨h1,h2,u⟩:=D
   simp only at h1 h2 u
   subst h1
   rcases u with ⟨F,f1,I,J,e⟩|⟨_,q⟩
   ·omega
   ·refine ⟨gs,?_,q⟩
    simp only [Z0_L2]
    rw [if_neg (by simp; omega)])
  (s:=([],0,0)) ⟨rfl,by simp,.inl ⟨0,by omega,rfl,by omega,by simp [rh (lG l)]⟩⟩
 rw [T,O]
theorem q8 {s g:aO}(h:g∈gD s):g.length≤s.length:=by
 induction s generalizing g with
 | nil=>simp [gD] at h; simp [h]
 | cons x r ih =>
  rw [ld] at h
  by_cases c:x=44
  ·rw [if_pos c] at h
   rcases List.mem_cons.1 h with q | q
   ·simp [q]
   ·have:=ih q; simp; omega
  ·rw [if_neg c] at h
   cases e:gD r with
   | nil=>exact absurd e (lG r)
   | cons g' gs =>
    rw [e] at h ih
    simp only [pre,List.mem_cons] at h
    rcases h with q | q
    ·have:=ih (g:=g') (by simp); rw [q]; simp; omega
    ·have:=ih (g:=g) (by simp [q]); simp; omega
theorem Au {gs:List aO}{o:aO}{form:aO}{x i:Int}(m:gs.length<cI)(l:∀ g∈gs,g.length<cI)(r:sub form (aK (x+2)) (form.length:Int)=o)(q:0≤i∧i<(o.length:Int)) :
  aW (fun s:Bool×Int=>Z0_L5 form x gs i s.1 s.2) (false,0)=some (decide (∃ g∈gs,ix o i∈g)):=by
 have e:∀ b:Bool,decide (∃ g∈gs,ix o i∈g)=gs.any fun g=>decide (ix o i∈g):=by
  intro _
  rw [Bool.eq_iff_iff]; simp
 rw [e true]
 refine fD (f:=fun s:Bool×Int=>Z0_L5 form x gs i s.1 s.2) (fun j=>((gs.take j).any fun g=>decide (ix o i∈g),(j:Int))) gs.length (fun j a=>?_) ?_ rfl
 ·simp only [Z0_L5]
  rw [r,if_pos (by simp; omega),if_pos (fun _=>by omega),if_pos (fun _=>q),List.take_succ_eq_append_getElem a,List.any_append,cH (by omega),cD a]
  have h:bt o i=((ix o i).toNat:Int):=rfl
  rw [h,wC (l _ (List.getElem_mem a))]
  cases (gs.take j).any fun g=>decide (ix o i∈g) with
  | true=>simp [bR]
  | false=>simp [bR]
 ·simp only [Z0_L5]
  rw [if_neg (by simp),List.take_length]
theorem vF {form:aO}(E:form.length≤1048576):Z0 form=some (parts form):=by
 unfold Z0
 rw [BM E]
 simp only [Option.bind_some,Z0_J1]
 unfold parts
 have L:ce form≤form.length:=by
  by_cases c:ce form=0
  ·omega
  ·have:=(rf (s:=form) (j:=ce form - 1) (by omega)).1; omega
 rw [cH (by unfold cI; omega)]
 cases h:pZ form with
 | none =>
  have:=re h
  rw [if_pos (by simp; omega)]
 | some p =>
  obtain ⟨l,o⟩:=p
  obtain ⟨I,D⟩:=lc h
  have M:form.length=l.length+2+o.length:=by rw [D]; simp; omega
  rw [if_neg (by simp; omega),I,tU E h]
  simp only [Option.bind_some]
  have G:aK ((l.length:Int)+2)=((l.length+2:Nat):Int):=by rw [bD (by omega) (by omega)]; omega
  have b:sub form (aK ((l.length:Int)+2)) (form.length:Int)=o:=by
   rw [G,iw,Int.toNat_natCast,D,List.drop_append]
   simp
  have r:(gD l).length<cI:=by
   rw [vC]; have:l.count 44≤l.length:=List.count_le_length; unfold cI; omega
  unfold Z0_J4
  rw [b,if_pos (by rw [G]; omega),nA (by unfold cI; omega)]
  by_cases c1:(gD l).length≤6
  ·have d1:decide (((gD l).length:Int)>6)=false:=by simp; omega
   rw [d1]
   simp only [bR,Bool.not_false,cond_true,Option.bind_some,Bool.false_or]
   by_cases c2:LT o
   ·rw [decide_eq_true c2,if_neg (by simp)]
    have u:=eW (gD l) (fun s:Int=>Z0_L3 (gD l) s) (fun i=>i) (fun g=>decide (LT g)) (.inl ([],[],false)) (.inr ())
     (fun k F=>by
      simp only [Z0_L3]
      rw [if_pos (by simp; omega),if_pos (by omega),cH (by omega),nA (by have:=q8 (bH F); unfold cI; omega)]
      cases decide (LT (ix (gD l) (k:Int)))<;>rfl)
     (by simp only [Z0_L3]; rw [if_neg (by simp)])
    rw [u]
    by_cases c3:∀ g∈gD l,LT g
    ·have e:((gD l).all fun g=>decide (LT g))=true:=by
      rw [List.all_eq_true]; intro g a; exact decide_eq_true (c3 g a)
     rw [e,if_pos rfl]
     simp only [Option.bind_some]
     unfold Z0_J5
     have B:=jA o.length (fun s:Int=>Z0_L4 form (l.length:Int) (gD l) s) (fun i=>i) (fun k=>decide (OL (gD l) o k)) (.inl ([],[],false)) (.inr ())
      (fun k F=>by
       simp only [Z0_L4]
       rw [b,if_pos (by simp; omega),Au r (fun g a=>by have:=q8 a; unfold cI; omega) b (by omega)]
       simp only [Option.bind_some,Z0_J7]
       rw [b,if_pos (fun _=>by omega),if_pos (fun _=>by omega),l8]
       have q:bt o (k:Int)=((ix o (k:Int)).toNat:Int):=rfl
       rw [q,wC (by simp; unfold cI; omega),cH (by unfold cI; omega)]
       by_cases q1:∃ g∈gD l,ix o (k:Int)∈g
       ·by_cases q2:ix o (k:Int)∈o.take k
        ·rw [decide_eq_true q1,decide_eq_true q2,decide_eq_false (fun z:OL (gD l) o k=>z.2 q2)]; rfl
        ·rw [decide_eq_true q1,decide_eq_false q2,show decide (OL (gD l) o k)=true from decide_eq_true ⟨q1,q2⟩]; rfl
       ·rw [decide_eq_false q1,decide_eq_false (fun z:OL (gD l) o k=>q1 z.1)]; rfl)
      (by simp only [Z0_L4]; rw [b,if_neg (by simp)])
     rw [B]
     by_cases c4:∀ i∈List.range o.length,OL (gD l) o i
     ·have m:((List.range o.length).all fun k=>decide (OL (gD l) o k))=true:=by
       rw [List.all_eq_true]; intro g a; exact decide_eq_true (c4 g a)
      rw [m,if_pos rfl,if_pos ⟨c1,c2,c3,c4⟩]
      simp only [Option.bind_some,Z0_J8]
      rw [b]
     ·have m:((List.range o.length).all fun k=>decide (OL (gD l) o k))=false:=by
       rw [Bool.eq_false_iff]; intro z
       exact c4 fun i J=>of_decide_eq_true (List.all_eq_true.1 z i J)
      rw [m,if_neg (by simp),if_neg (fun z=>c4 z.2.2.2)]; rfl
    ·have e:((gD l).all fun g=>decide (LT g))=false:=by
      rw [Bool.eq_false_iff]; intro z
      exact c3 fun g a=>of_decide_eq_true (List.all_eq_true.1 z g a)
     rw [e,if_neg (by simp),if_neg (fun z=>c3 z.2.2.1)]; rfl
   ·rw [decide_eq_false c2,if_pos (by simp),if_neg (fun z=>c2 z.2.1)]
  ·have d1:decide (((gD l).length:Int)>6)=true:=by simp; omega
   rw [d1,if_neg (fun z=>c1 z.1)]
   simp [bR]
theorem Av {form:aO}(i:form.length≤1048576):Z36 form str0=some (match pZ form with | none=>(form,[],false) | some p=>(p.1,p.2,true)):=by
 unfold Z36 eB cV
 rw [if_pos (by omega),nB]
 simp only [Option.bind_some]
 cases h:pZ form with
 | none=>simp
 | some p =>
  obtain ⟨l,o⟩:=p
  obtain ⟨g,a⟩:=lc h
  have j:form.length=l.length+2+o.length:=by rw [a]; simp; omega
  have e:aK ((l.length:Int)+((str0.length:Nat):Int))=((l.length+2:Nat):Int):=by
   show aK ((l.length:Int)+2)=_
   rw [bD (by omega) (by omega)]; omega
  simp only
  rw [if_pos (by simp),if_pos (by omega),e,if_pos (by omega)]
  have a1:sub form 0 (l.length:Int)=l:=by rw [l8,a]; simp
  have b:sub form ((l.length+2:Nat):Int) (form.length:Int)=o:=by
   rw [iw,Int.toNat_natCast,a,List.drop_append]; simp
  rw [a1,b]; rfl
theorem vG {gs:List aO}{x:Nat}(e:x<gs.length)(h:(ix gs (x:Int)).length<cI) :
  aW (fun s:Int=>Ze_L2 gs (x:Int) s) 0=some (if ∀ c∈ix gs (x:Int),97≤c.toNat∧c.toNat≤122 then .inr () else .inl ([],[],false)):=by
 obtain ⟨g,a⟩:∃ g,g=ix gs (x:Int):=⟨_,rfl⟩
 have:=eW g (fun s:Int=>Ze_L2 gs (x:Int) s) (fun i=>i) (fun c=>decide (97≤c.toNat∧c.toNat≤122)) (.inl ([],[],false)) (.inr ())
  (fun k j=>by
   have b:bt g (k:Int)=((ix g (k:Int)).toNat:Int):=rfl
   simp only [Ze_L2]
   rw [← a,if_pos (by simp; omega),if_pos (by omega),cH (by rw [← a] at h; omega)]
   by_cases q:97≤(ix g (k:Int)).toNat∧(ix g (k:Int)).toNat≤122
   ·rw [if_neg (by simp only [Bool.or_eq_true,decide_eq_true_eq,b]; omega),decide_eq_true q,if_pos rfl]
   ·rw [if_pos (by simp only [Bool.or_eq_true,decide_eq_true_eq,b]; omega),decide_eq_false q,if_neg (by simp)])
  (by simp only [Ze_L2]; rw [← a,if_neg (by simp)])
 rw [this,← a]
 by_cases c:∀ c∈g,97≤c.toNat∧c.toNat≤122
 ·rw [if_pos c,if_pos (by rw [List.all_eq_true]; intro x e; exact decide_eq_true (c x e))]
 ·rw [if_neg c,if_neg]
  intro z
  exact c fun x e=>of_decide_eq_true (List.all_eq_true.1 z x e)
theorem vH {form:aO}(M:form.length≤1048576):Ze form=some (parts form):=by
 unfold Ze parts
 rw [Av M]
 simp only [Option.bind_some]
 cases h:pZ form with
 | none=>simp
 | some p =>
  obtain ⟨l,o⟩:=p
  obtain ⟨Y,L⟩:=lc h
  have Z:form.length=l.length+2+o.length:=by rw [L]; simp; omega
  simp only [Bool.not_true,Bool.false_or]
  by_cases c0:o.length≤6
  ·rw [if_neg (by simp; omega),vE (by omega)]
   simp only [Option.bind_some]
   by_cases c1:(gD l).length≤6
   ·rw [if_neg (by simp; omega)]
    have D:=eW (gD l) (fun s:Int=>Ze_L1 (gD l) s) (fun i=>i) (fun g=>decide (LT g)) (.inl ([],[],false)) (.inr ())
     (fun k b=>by
      have e:=q8 (bH b)
      simp only [Ze_L1]
      rw [if_pos (by simp; omega),if_pos (by omega)]
      by_cases q1:(ix (gD l) (k:Int)).length≤6
      ·rw [if_neg (by simp; omega),vG b (by unfold cI; omega)]
       by_cases q2:∀ c∈ix (gD l) (k:Int),97≤c.toNat∧c.toNat≤122
       ·rw [if_pos q2,show decide (LT (ix (gD l) (k:Int)))=true from decide_eq_true ⟨q1,q2⟩,if_pos rfl]
        simp only [Option.bind_some,Ze_J2]
        rw [cH (by unfold cI; omega)]
       ·rw [if_neg q2,show decide (LT (ix (gD l) (k:Int)))=false from decide_eq_false (fun z=>q2 z.2),if_neg (by simp)]; rfl
      ·rw [if_pos (by simp; omega),show decide (LT (ix (gD l) (k:Int)))=false from decide_eq_false (fun z=>q1 z.1),if_neg (by simp)])
     (by simp only [Ze_L1]; rw [if_neg (by simp)])
    rw [D]
    by_cases c3:∀ g∈gD l,LT g
    ·have r:((gD l).all fun g=>decide (LT g))=true:=by
      rw [List.all_eq_true]; intro g e; exact decide_eq_true (c3 g e)
     rw [r,if_pos rfl]
     simp only [Option.bind_some]
     unfold Ze_J3
     have E:=jA o.length (fun s:Int=>Ze_L3 (l,o,true) s) (fun i=>i) (fun k=>decide ((97≤(ix o (k:Int)).toNat∧(ix o (k:Int)).toNat≤122)∧OL (gD l) o k)) (.inl ([],[],false)) (.inr ())
      (fun k b=>by
       have a:bt o (k:Int)=((ix o (k:Int)).toNat:Int):=rfl
       simp only [Ze_L3]
       rw [if_pos (by simp; omega),if_pos (by omega),cH (by unfold cI; omega),l8]
       by_cases q:97≤(ix o (k:Int)).toNat∧(ix o (k:Int)).toNat≤122
       ·have m:(decide (bt o (k:Int)<97)||decide (bt o (k:Int)>122))=false:=by
         rw [Bool.eq_false_iff]; simp only [ne_eq,Bool.or_eq_true,decide_eq_true_eq,a]; omega
        rw [m,if_pos (fun _=>by omega)]
        have B:ix o (k:Int)≠44:=by
         intro z; rw [z] at q; exact absurd q (by decide)
        obtain ⟨F,T,G⟩:=o6 (o.take k) (ix o (k:Int))
        obtain ⟨I,U,s3⟩:=o6 l (ix o (k:Int))
        rw [a,T,U]
        simp only [bR,Bool.not_false,cond_true,Option.bind_some,Bool.false_or]
        rw [← vD l _ B] at s3
        by_cases q2:ix o (k:Int)∈o.take k
        ·have:decide (F≥0)=true:=by
          rw [decide_eq_true_eq]
          have:¬ F<0:=fun z=>G.1 z q2
          omega
         rw [this,decide_eq_false (fun z=>z.2.2 q2)]; rfl
        ·have:decide (F≥0)=false:=by
          rw [decide_eq_false_iff_not]
          have:=G.2 q2
          omega
         rw [this]
         simp only [Bool.not_false,cond_true,Option.bind_some,Bool.false_or]
         by_cases q3:∃ g∈gD l,ix o (k:Int)∈g
         ·have:decide (I<0)=false:=by
           rw [decide_eq_false_iff_not]
           exact fun z=>s3.1 z q3
          rw [this,decide_eq_true ⟨q,q3,q2⟩]; rfl
         ·have:decide (I<0)=true:=decide_eq_true (s3.2 q3)
          rw [this,decide_eq_false (fun z=>q3 z.2.1)]; rfl
       ·have m:(decide (bt o (k:Int)<97)||decide (bt o (k:Int)>122))=true:=by
         simp only [Bool.or_eq_true,decide_eq_true_eq,a]; omega
        rw [m,if_pos (fun z=>by cases z),decide_eq_false (fun z=>q z.1)]
        rfl)
      (by simp only [Ze_L3]; rw [if_neg (by simp)])
     rw [E]
     by_cases c4:PO (gD l) o
     ·have u:((List.range o.length).all fun k=>decide ((97≤(ix o (k:Int)).toNat∧(ix o (k:Int)).toNat≤122)∧OL (gD l) o k))=true:=by
       rw [List.all_eq_true]; intro k b
       exact decide_eq_true ⟨c4.2.1.2 _ (bH (List.mem_range.1 b)),c4.2.2.2 k b⟩
      rw [u,if_pos rfl,if_pos c4]; rfl
     ·have u:((List.range o.length).all fun k=>decide ((97≤(ix o (k:Int)).toNat∧(ix o (k:Int)).toNat≤122)∧OL (gD l) o k))=false:=by
       rw [Bool.eq_false_iff]; intro z
       have J:=List.all_eq_true.1 z
       refine c4 ⟨c1,⟨c0,fun c O=>?_⟩,c3,fun i j=>(of_decide_eq_true (J i j)).2⟩
       obtain ⟨i,j,rfl⟩:=List.mem_iff_getElem.1 O
       have:=(of_decide_eq_true (J i (List.mem_range.2 j))).1
       rwa [cD j] at this
      rw [u,if_neg (by simp),if_neg c4]; rfl
    ·have r:((gD l).all fun g=>decide (LT g))=false:=by
      rw [Bool.eq_false_iff]; intro z
      exact c3 fun g e=>of_decide_eq_true (List.all_eq_true.1 z g e)
     rw [r,if_neg (by simp),if_neg (fun z=>c3 z.2.2.1)]; rfl
   ·rw [if_pos (by simp; omega),if_neg (fun z=>c1 z.1)]
  ·rw [if_pos (by simp; omega),if_neg (fun z=>c0 z.2.1.1)]
def qa {S:Type}(st:S→Nat→Option S):Nat→S→Option S
 | 0,s=>some s
 | n+1,s=>(qa st n s).bind fun s'=>st s' n
theorem jC {S T A B:Type}{f:T→Option (T⊕(A⊕B))}(st:S→Nat→Option S)(mk:S→Int→T)(h:S→B)(e:A→Prop)(a:Nat→S→Prop)(n:Nat)
  (h1:∀ j s,j<n→a j s→(∃ s',st s j=some s'∧f (mk s (j:Int))=some (.inl (mk s' ((j+1:Nat):Int)))∧a (j+1) s')∨(st s j=none∧∃ b,f (mk s (j:Int))=some (.inr (.inl b))∧e b))
  (h2:∀ s,a n s→f (mk s (n:Int))=some (.inr (.inr (h s)))) {s:S} (D:a 0 s) :
  (∃ s',qa st n s=some s'∧aW f (mk s 0)=some (.inr (h s'))∧a n s')∨(qa st n s=none∧∃ b,aW f (mk s 0)=some (.inl b)∧e b):=by
 have r:∀ j,j≤n→(∃ s',qa st j s=some s'∧aW f (mk s 0)=aW f (mk s' (j:Int))∧a j s')∨(qa st j s=none∧∃ b,aW f (mk s 0)=some (.inl b)∧e b):=by
  intro j
  induction j with
  | zero=>intro _; exact .inl ⟨s,rfl,rfl,D⟩
  | succ j ih =>
   intro E
   rcases ih (by omega) with ⟨s',a1,g,a3⟩|⟨a1,g⟩
   ·rcases h1 j s' (by omega) a3 with ⟨u,i,l,m⟩|⟨i,b,l,m⟩
    ·exact .inl ⟨u,by rw [qa,a1]; exact i,by rw [g,eM l],m⟩
    ·exact .inr ⟨by rw [qa,a1]; exact i,b,by rw [g,dE l],m⟩
   ·exact .inr ⟨by rw [qa,a1]; rfl,g⟩
 rcases r n (Nat.le_refl _) with ⟨s',a1,g,a3⟩ | q
 ·exact .inl ⟨s',a1,by rw [g,dE (h2 s' a3)],a3⟩
 ·exact .inr q
def lk (lens:List Int)(c:UInt8):Int:=ix lens ((c.toNat:Int) - 97)
def lg (s:aO×List Int)(c:UInt8)(d:Int):Option (aO×List Int) :=
 if lk s.2 c≠0∧lk s.2 c≠d then none else some (if c∈s.1 then s.1 else s.1++[c],s.2.set (c.toNat - 97) d)
def lH (g:aO)(ds:List Int)(s:aO×List Int):Option (aO×List Int) :=
 if g.length=ds.length then qa (fun s k=>lg s (ix g (k:Int)) (ix ds (k:Int))) g.length s else none
def nj (gs:List aO)(dss:List (List Int))(s:aO×List Int):Option (aO×List Int):=qa (fun s k=>lH (ix gs (k:Int)) (ix dss (k:Int)) s) gs.length s
end Go.Proofs.YthelanpdjajnbaaGreat
