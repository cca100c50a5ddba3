import Derived.Test.YthelanpdjajnbaaGreatMG1
import Derived.KernelRfl
set_option linter.unusedVariables false
set_option linter.unusedSimpArgs false
namespace Go.Proofs.YthelanpdjajnbaaGreat
open Go Go.Pg
theorem xV {ds is:List Int}{j:Nat}{m x:Int}(a:j<ds.length)(h:IV (ds.set j m) is)(b:0≤x)(h1:x<ix ds (j:Int)):IV ds (is.set j x):=by
 induction ds generalizing is j with
 | nil=>simp at a
 | cons d ds ih=>cases j with
  | zero=>cases is with
   | nil=>exact h.elim
   | cons i is=>exact ⟨⟨b,h1⟩,h.2⟩
  | succ j=>cases is with
   | nil=>exact h.elim
   | cons i is=>rw [dS] at h1; exact ⟨h.1,ih (by simpa using a) h.2 h1⟩
theorem mI {ds is:List Int}{j:Nat}{m x:Int}(a:j<ds.length)(h:IV ds is)(b:0≤x)(h1:x<m):IV (ds.set j m) (is.set j x):=by
 induction ds generalizing is j with
 | nil=>simp at a
 | cons d ds ih=>cases j with
  | zero=>cases is with
   | nil=>exact h.elim
   | cons i is=>exact ⟨⟨b,h1⟩,h.2⟩
  | succ j=>cases is with
   | nil=>exact h.elim
   | cons i is=>exact ⟨h.1,ih (by simpa using a) h.2⟩
theorem ru {ds is:List Int}(h:IV ds is)(k:Nat):IV (ds.take k) (is.take k):=by
 induction ds generalizing is k with
 | nil=>cases is with
  | nil=>simp [IV]
  | cons=>exact h.elim
 | cons d ds ih=>cases is with
  | nil=>exact h.elim
  | cons i is=>cases k with
   | zero=>simp [IV]
   | succ k=>exact ⟨h.1,ih h.2 k⟩
def ng (ds:List Int)(a:Int)(xs:List Int):Prop:=0≤a∧a<(ds.length:Int)∧xs≠[]∧(∀ x∈xs,0≤x∧x<ix ds a)∧eK (ds.set a.toNat (xs.length:Int))
instance (ds:List Int)(a:Int)(xs:List Int):Decidable (ng ds a xs):=by unfold ng; infer_instance
def mu (ds:List Int)(a:Int)(xs:List Int)(n:Int):Prop:=0≤a∧a<(ds.length:Int)∧(xs.length:Int)=ix ds a∧(∀ x∈xs,0≤x∧x<n)∧eK (ds.set a.toNat n)
instance (ds:List Int)(a:Int)(xs:List Int)(n:Int):Decidable (mu ds a xs n):=by unfold mu; infer_instance
def kb (ds:List Int)(a b f g:Int):Int:=b+ix ds a+(ix ds a - 1)*g+f
def nh (ds:List Int)(a b f g:Int):Prop:=0≤a∧a<(ds.length:Int)∧0≤b∧b≤4096∧0≤f∧f≤4096∧0≤g∧g≤4096∧eK (ds.set a.toNat (kb ds a b f g))
instance (ds:List Int)(a b f g:Int):Decidable (nh ds a b f g):=by unfold nh; infer_instance
theorem ll {t:Tensor}(h:TT t)(a:Int):Z1m t a=some (decide (0≤a∧a<(t.Dims.length:Int))):=by
 unfold Z1m
 rw [qe h]
 simp only [Option.bind_some,Bool.true_and]
 congr 1
 rw [Bool.eq_iff_iff]
 simp
theorem jT {xs:List Int}(h:xs.length≤6){j:Nat}(a:j<xs.length)(x:Int):Z0l xs (j:Int) x=some (xs.set j x):=by
 unfold Z0l
 rw [gU (by omega)]
 simp only [Option.bind_some]
 rw [if_pos (by omega),Int.toNat_natCast]
theorem kk {xs:List Int}(b:xs.length<cJ)(n:Int):Z0m xs n=some (decide (∀ x∈xs,0≤x∧x<n)):=by
 unfold Z0m
 have:=fA xs (fun s:Int=>Z0m_L1 xs n s) (fun i=>i) (fun x=>!(decide (x<0)||decide (x≥n))) (.inl false) (.inr ())
  (fun k g=>by
   simp only [Z0m_L1]
   rw [if_pos (by simp; omega),if_pos (by omega),cA (by omega)]
   cases (decide (ix xs (k:Int)<0)||decide (ix xs (k:Int)≥n))<;>rfl)
  (by simp only [Z0m_L1]; rw [if_neg (by simp)])
 rw [this]
 have e:(xs.all fun x=>!(decide (x<0)||decide (x≥n)))=decide (∀ x∈xs,0≤x∧x<n):=by
  rw [Bool.eq_iff_iff]
  simp only [List.all_eq_true,decide_eq_true_eq,Bool.not_eq_true',Bool.or_eq_false_iff,decide_eq_false_iff_not]
  exact ⟨fun h x a=>by have:=h x a; omega,fun h x a=>by have:=h x a; omega⟩
 rw [e]
 by_cases c:∀ x∈xs,0≤x∧x<n
 ·rw [decide_eq_true c]; rfl
 ·rw [decide_eq_false c]; rfl
theorem tU {t:Tensor}(h:TT t){a:Int}{xs:List Int}(L:xs.length<cJ) :
  (ng t.Dims a xs→∃ d,Z10 t a xs=some ⟨t.Dims.set a.toNat (xs.length:Int),d⟩∧TOk (t.Dims.set a.toNat (xs.length:Int)) d)∧(¬ ng t.Dims a xs→Z10 t a xs=some ⟨[],[]⟩):=by
 have G:=kR h
 unfold Z10
 rw [ll h]
 simp only [Option.bind_some]
 by_cases g:(0≤a∧a<(t.Dims.length:Int))∧xs≠[]
 ·obtain ⟨g1,D⟩:=g
  have U:xs.length≠0:=fun e=>D (List.eq_nil_of_length_eq_zero e)
  obtain ⟨j,rfl⟩:=Int.eq_ofNat_of_zero_le g1.1
  have l:j<t.Dims.length:=by omega
  have B:(!decide (0≤(j:Int)∧(j:Int)<(t.Dims.length:Int))||(xs.length:Int)==0)=false:=by rw [decide_eq_true g1]; simp [D]
  rw [if_pos (fun _=>g1),B]
  simp only [bT,Bool.not_false,cond_true,Bool.false_or]
  rw [kk L]
  simp only [Option.bind_some,Int.toNat_natCast]
  by_cases g4:∀ x∈xs,0≤x∧x<ix t.Dims (j:Int)
  ·rw [decide_eq_true g4,if_neg (by simp),jT G.2 l]
   simp only [Option.bind_some]
   rw [gY (by simp [cJ]; omega)]
   by_cases g5:eK (t.Dims.set j (xs.length:Int))
   ·simp only [decide_eq_true g5,Option.bind_some,Bool.not_true,Bool.false_eq_true,if_false]
    refine ⟨fun _=>?_,fun q=>absurd ⟨g1.1,g1.2,D,g4,by simpa using g5⟩ q⟩
    rw [ld g5]
    simp only [Option.bind_some]
    have Z:=g5.2.2
    obtain ⟨r,I,J⟩:=lj (f:=fun s:List Int×Int=>Z10_L1 t (j:Int) xs (t.Dims.set j (xs.length:Int)) ⟨t.Dims.set j (xs.length:Int),List.replicate (pr (t.Dims.set j (xs.length:Int))).toNat 0⟩ s.1 s.2) (Post:=fun r=>RG (pr (t.Dims.set j (xs.length:Int))).toNat r) (pr (t.Dims.set j (xs.length:Int))).toNat (pr (t.Dims.set j (xs.length:Int))).toNat
     (fun k Y x E=>by
      have F:=iz g5.2.1 (k:Int)
      have b:=jQ (t.Dims.set j (xs.length:Int)) (k:Int)
      have i:=F.mem (j:=j) (by rw [b]; simpa using l)
      rw [xQ l] at i
      obtain ⟨q,M⟩:=Int.eq_ofNat_of_zero_le i.1
      have u:=g4 _ (bF (xs:=xs) (k:=q) (by omega))
      have m:=xV l F u.1 u.2
      obtain ⟨y,O,T⟩:=nQ h m
      simp only [Z10_L1]
      rw [if_pos (by simp; omega),jR g5 (by omega) (by omega)]
      simp only [Option.bind_some]
      rw [if_pos (by rw [b]; simp; omega),if_pos (by omega),jT (by rw [b]; simpa using G.2) (by rw [b]; simpa using l)]
      simp only [Option.bind_some,M,O]
      rw [if_pos (by simp; omega),cA (by unfold cJ; omega)]
      exact ⟨_,rfl,E.set (h.x y T) _⟩)
     (fun x E=>by simp only [Z10_L1]; rw [if_neg (by simp)]; exact ⟨x,rfl,E⟩) (RG.rep _)
    rw [I]
    exact ⟨r,rfl,iA g5 J⟩
   ·simp only [decide_eq_false g5,Option.bind_some,Bool.not_false,if_true]
    exact ⟨fun q=>absurd (by simpa using q.2.2.2.2) g5,fun _=>by trivial⟩
  ·rw [decide_eq_false g4,if_pos (by simp)]
   exact ⟨fun q=>absurd q.2.2.2.1 g4,fun _=>by trivial⟩
 ·have B:(!decide (0≤a∧a<(t.Dims.length:Int))||(xs.length:Int)==0)=true:=by
   by_cases q:0≤a∧a<(t.Dims.length:Int)
   ·have:xs=[]:=by
     refine Classical.byContradiction fun z=>g ⟨q,z⟩
    subst this; simp
   ·rw [decide_eq_false q]; rfl
  rw [if_pos (fun q=>by rw [B] at q; cases q),B]
  simp only [bT,Bool.not_true,cond_false,Option.bind_some,Bool.true_or,if_true]
  exact ⟨fun q=>absurd ⟨⟨q.1,q.2.1⟩,q.2.2.1⟩ g,fun _=>by trivial⟩
theorem rW {t:Tensor}(h:TT t){a n:Int}{xs:List Int}(G:xs.length<cJ) :
  (mu t.Dims a xs n→∃ d,Z12 t a xs n=some ⟨t.Dims.set a.toNat n,d⟩∧TOk (t.Dims.set a.toNat n) d)∧(¬ mu t.Dims a xs n→Z12 t a xs n=some ⟨[],[]⟩):=by
 have J:=kR h
 unfold Z12
 rw [ll h]
 simp only [Option.bind_some]
 by_cases g1:0≤a∧a<(t.Dims.length:Int)
 ·obtain ⟨j,rfl⟩:=Int.eq_ofNat_of_zero_le g1.1
  have D:j<t.Dims.length:=by omega
  rw [decide_eq_true g1,if_pos (fun _=>g1)]
  simp only [bT,Bool.not_true,Bool.false_or,Int.toNat_natCast]
  by_cases g2:(xs.length:Int)=ix t.Dims (j:Int)
  ·have i:((xs.length:Int) != ix t.Dims (j:Int))=false:=by simp [g2]
   rw [i]
   simp only [Bool.not_false,cond_true,Bool.false_or]
   rw [kk G]
   simp only [Option.bind_some]
   by_cases g4:∀ x∈xs,0≤x∧x<n
   ·rw [decide_eq_true g4,if_neg (by simp),jT J.2 D]
    simp only [Option.bind_some]
    rw [gY (by simp [cJ]; omega)]
    by_cases g5:eK (t.Dims.set j n)
    ·simp only [decide_eq_true g5,Option.bind_some,Bool.not_true,Bool.false_eq_true,if_false]
     refine ⟨fun _=>?_,fun q=>absurd ⟨g1.1,g1.2,g2,g4,by simpa using g5⟩ q⟩
     rw [ld g5]
     simp only [Option.bind_some]
     have Y:=h.d.2.2
     obtain ⟨r,E,F⟩:=lj (f:=fun s:List Int×Int=>Z12_L1 t (j:Int) xs ⟨t.Dims.set j n,List.replicate (pr (t.Dims.set j n)).toNat 0⟩ s.1 s.2) (Post:=fun r=>RG (pr (t.Dims.set j n)).toNat r) (pr (t.Dims.set j n)).toNat t.Data.length
      (fun k U x g=>by
       have B:=iz h.d.2.1 (k:Int)
       have I:=jQ t.Dims (k:Int)
       have u:=B.mem (j:=j) (by omega)
       obtain ⟨q,L⟩:=Int.eq_ofNat_of_zero_le u.1
       have e:=g4 _ (bF (xs:=xs) (k:=q) (by omega))
       have b:=mI (m:=n) D B e.1 e.2
       have tk:TT ⟨t.Dims.set j n,x⟩:=iA g5 g
       obtain ⟨y,T,Z⟩:=nQ (t:=⟨t.Dims.set j n,x⟩) tk b
       obtain ⟨m,M,O⟩:=ov y (ix t.Data (k:Int))
       simp only [Z12_L1]
       rw [if_pos (by simp; omega),jR h.d (by omega) (by omega)]
       simp only [Option.bind_some]
       rw [if_pos (by omega),if_pos (by omega),jT (by omega) (by omega)]
       simp only [Option.bind_some,L,T]
       rw [if_pos (by omega),M]
       simp only [Option.bind_some]
       rw [tF (t:=⟨t.Dims.set j n,x⟩) g5 tk.l b,cA (by unfold cJ; omega)]
       exact ⟨_,rfl,g.set O _⟩)
      (fun x g=>by simp only [Z12_L1]; rw [if_neg (by simp)]; exact ⟨x,rfl,g⟩) (RG.rep _)
     rw [E]
     exact ⟨r,rfl,iA g5 F⟩
    ·simp only [decide_eq_false g5,Option.bind_some,Bool.not_false,if_true]
     exact ⟨fun q=>absurd (by simpa using q.2.2.2.2) g5,fun _=>by trivial⟩
   ·rw [decide_eq_false g4,if_pos (by simp)]
    exact ⟨fun q=>absurd q.2.2.2.1 g4,fun _=>by trivial⟩
  ·have i:((xs.length:Int) != ix t.Dims (j:Int))=true:=by simp [g2]
   rw [i]
   simp only [Bool.not_true,cond_false,Option.bind_some,Bool.true_or,if_true]
   exact ⟨fun q=>absurd q.2.2.1 g2,fun _=>by trivial⟩
 ·rw [decide_eq_false g1,if_pos (fun q=>by cases q)]
  simp only [bT,Bool.not_false,Bool.true_or,Bool.not_true,cond_false,Option.bind_some,if_true]
  exact ⟨fun q=>absurd ⟨q.1,q.2.1⟩ g1,fun _=>by trivial⟩
theorem AM {t:Tensor}(h:TT t){a b f g:Int} :
  (nh t.Dims a b f g→∃ d,Z11 t a b f g=some ⟨t.Dims.set a.toNat (kb t.Dims a b f g),d⟩∧TOk (t.Dims.set a.toNat (kb t.Dims a b f g)) d)∧(¬ nh t.Dims a b f g→Z11 t a b f g=some ⟨[],[]⟩):=by
 have hl:=kR h
 unfold Z11
 rw [ll h]
 simp only [Option.bind_some]
 by_cases c:(0≤a∧a<(t.Dims.length:Int))∧0≤b∧b≤4096∧0≤f∧f≤4096∧0≤g∧g≤4096
 ·obtain ⟨g1,I,J,L,M,i,F⟩:=c
  obtain ⟨j,rfl⟩:=Int.eq_ofNat_of_zero_le g1.1
  have E:j<t.Dims.length:=by omega
  have hm:=h.d.2.mem (bF E)
  have k0:0≤(ix t.Dims (j:Int) - 1)*g:=Int.mul_nonneg (by omega) i
  have k1:=Int.mul_le_mul (show ix t.Dims (j:Int) - 1≤4096 by omega) F i (show (0:Int)≤4096 by omega)
  have e:aK (aK (aK (b+ix t.Dims (j:Int))+aK (aK (ix t.Dims (j:Int) - 1)*g))+f)=kb t.Dims (j:Int) b f g:=by
   rw [bG (n:=b+ix t.Dims (j:Int)) (by omega) (by omega),bG (n:=ix t.Dims (j:Int) - 1) (by omega) (by omega),bG (n:=(ix t.Dims (j:Int) - 1)*g) (by omega) (by omega),bG (n:=b+ix t.Dims (j:Int)+(ix t.Dims (j:Int) - 1)*g) (by omega) (by omega),bG (by omega) (by omega)]
   rfl
  rw [if_neg (by simp; omega),if_pos g1,e,jT hl.2 E]
  simp only [Option.bind_some,Int.toNat_natCast]
  rw [gY (by simp [cJ]; omega)]
  by_cases g5:eK (t.Dims.set j (kb t.Dims (j:Int) b f g))
  ·simp only [decide_eq_true g5,Option.bind_some,Bool.not_true,Bool.false_eq_true,if_false]
   refine ⟨fun _=>?_,fun q=>absurd ⟨g1.1,g1.2,I,J,L,M,i,F,by simpa using g5⟩ q⟩
   rw [ld g5]
   simp only [Option.bind_some]
   have hp:=h.d.2.2
   obtain ⟨r,O,T⟩:=lj (f:=fun s:List Int×Int=>Z11_L1 t (j:Int) b g ⟨t.Dims.set j (kb t.Dims (j:Int) b f g),List.replicate (pr (t.Dims.set j (kb t.Dims (j:Int) b f g))).toNat 0⟩ s.1 s.2) (Post:=fun r=>RG (pr (t.Dims.set j (kb t.Dims (j:Int) b f g))).toNat r) (pr (t.Dims.set j (kb t.Dims (j:Int) b f g))).toNat t.Data.length
    (fun k Z x B=>by
     have G:=iz h.d.2.1 (k:Int)
     have Y:=jQ t.Dims (k:Int)
     have D:=G.mem (j:=j) (by omega)
     have z0:0≤ix (iy t.Dims (k:Int)) (j:Int)*g:=Int.mul_nonneg D.1 i
     have z1:ix (iy t.Dims (k:Int)) (j:Int)*g≤(ix t.Dims (j:Int) - 1)*g:=Int.mul_le_mul_of_nonneg_right (by omega) i
     have U:aK (b+aK (ix (iy t.Dims (k:Int)) (j:Int)*aK (g+1)))=b+(ix (iy t.Dims (k:Int)) (j:Int)*g+ix (iy t.Dims (k:Int)) (j:Int)):=by
      rw [bG (n:=g+1) (by omega) (by omega),Int.mul_add,Int.mul_one,bG (n:=ix (iy t.Dims (k:Int)) (j:Int)*g+ix (iy t.Dims (k:Int)) (j:Int)) (by omega) (by omega),bG (by omega) (by omega)]
     have u:=mI (m:=kb t.Dims (j:Int) b f g) (x:=b+(ix (iy t.Dims (k:Int)) (j:Int)*g+ix (iy t.Dims (k:Int)) (j:Int))) E G (by omega) (by unfold kb; omega)
     have tk:TT ⟨t.Dims.set j (kb t.Dims (j:Int) b f g),x⟩:=iA g5 B
     simp only [Z11_L1]
     rw [if_pos (by simp; omega),jR h.d (by omega) (by omega)]
     simp only [Option.bind_some]
     rw [if_pos (by omega),U,jT (by omega) (by omega)]
     simp only [Option.bind_some]
     rw [if_pos (by omega),tF (t:=⟨t.Dims.set j (kb t.Dims (j:Int) b f g),x⟩) g5 tk.l u,cA (by unfold cJ; omega)]
     exact ⟨_,rfl,B.set (h.x _ (bF Z)) _⟩)
    (fun x B=>by simp only [Z11_L1]; rw [if_neg (by simp)]; exact ⟨x,rfl,B⟩) (RG.rep _)
   rw [O]
   exact ⟨r,rfl,iA g5 T⟩
  ·simp only [decide_eq_false g5,Option.bind_some,Bool.not_false,if_true]
   exact ⟨fun q=>absurd (by simpa using q.2.2.2.2.2.2.2.2) g5,fun _=>by trivial⟩
 ·rw [if_pos (by simp only [Bool.or_eq_true,Bool.not_eq_true',decide_eq_true_eq,decide_eq_false_iff_not]; omega)]
  exact ⟨fun q=>absurd ⟨⟨q.1,q.2.1⟩,q.2.2.1,q.2.2.2.1,q.2.2.2.2.1,q.2.2.2.2.2.1,q.2.2.2.2.2.2.1,q.2.2.2.2.2.2.2.1⟩ c,fun _=>by trivial⟩
def mw (ds:List Int)(a st n:Int):Prop:=0≤a∧a<(ds.length:Int)∧a≠(ds.length:Int) - 1∧1≤st∧1≤n∧n≤4096∧ix ds ((ds.length:Int) - 1)≤n∧(n - ix ds ((ds.length:Int) - 1)) / st+1=ix ds a∧eK ((ds.set a.toNat n).take (ds.length - 1))
instance (ds:List Int)(a st n:Int):Decidable (mw ds a st n):=by unfold mw; infer_instance
theorem lm {α:Type}(xs:List α)(k:Nat):sub xs 0 (k:Int)=xs.take k:=by simp [sub]
theorem xW {t:Tensor}(h:TT t){a st n:Int} :
  (mw t.Dims a st n→∃ d,Z0z t a st n=some ⟨(t.Dims.set a.toNat n).take (t.Dims.length - 1),d⟩∧TOk ((t.Dims.set a.toNat n).take (t.Dims.length - 1)) d)∧(¬ mw t.Dims a st n→Z0z t a st n=some ⟨[],[]⟩):=by
 have Y:=kR h
 have w1:aK ((t.Dims.length:Int) - 1)=(t.Dims.length:Int) - 1:=bG (by omega) (by omega)
 unfold Z0z
 rw [ll h,w1]
 simp only [Option.bind_some]
 by_cases c:(0≤a∧a<(t.Dims.length:Int))∧a≠(t.Dims.length:Int) - 1∧1≤st∧1≤n∧n≤4096
 ·obtain ⟨g1,F,I,J,L⟩:=c
  obtain ⟨j,rfl⟩:=Int.eq_ofNat_of_zero_le g1.1
  have D:j<t.Dims.length:=by omega
  obtain ⟨l,E⟩:∃ l,l=t.Dims.length - 1:=⟨_,rfl⟩
  have g:(t.Dims.length:Int) - 1=(l:Int):=by omega
  have w2:aK (l:Int)=(l:Int):=bG (by omega) (by omega)
  have hm:=h.d.2.mem (bF D)
  have Z:=h.d.2.mem (bF (xs:=t.Dims) (k:=l) (by omega))
  rw [g] at F ⊢
  rw [if_neg (by simp; omega),if_pos (by omega),if_pos (fun _=>by omega),if_pos (fun _=>g1)]
  unfold mw
  rw [g,← E]
  by_cases c5:ix t.Dims (l:Int)≤n
  ·have q0:0≤(n - ix t.Dims (l:Int)) / st:=Int.ediv_nonneg (by omega) (by omega)
   have q1:(n - ix t.Dims (l:Int)) / st≤n - ix t.Dims (l:Int):=Int.ediv_le_self _ (by omega)
   have e:aK (aK ((aK (n - ix t.Dims (l:Int))).tdiv st)+1)=(n - ix t.Dims (l:Int)) / st+1:=by
    rw [bG (n:=n - ix t.Dims (l:Int)) (by omega) (by omega),Int.tdiv_eq_ediv_of_nonneg (by omega),bG (n:=(n - ix t.Dims (l:Int)) / st) (by omega) (by omega),bG (by omega) (by omega)]
   rw [e]
   by_cases c6:(n - ix t.Dims (l:Int)) / st+1=ix t.Dims (j:Int)
   ·rw [if_neg (by simp [c6]; omega),jT Y.2 D]
    simp only [Option.bind_some,Int.toNat_natCast]
    rw [if_pos (by simp; omega),lm,gY (by simp [cJ]; omega)]
    by_cases g5:eK ((t.Dims.set j n).take l)
    ·simp only [decide_eq_true g5,Option.bind_some,Bool.not_true,Bool.false_eq_true,if_false]
     refine ⟨fun _=>?_,fun q=>absurd ⟨g1.1,g1.2,F,I,J,L,c5,c6,g5⟩ q⟩
     rw [ld g5]
     simp only [Option.bind_some]
     have hp:=h.d.2.2
     have q3:=Int.ediv_mul_le (n - ix t.Dims (l:Int)) (show st≠0 by omega)
     obtain ⟨r,M,O⟩:=lj (f:=fun s:List Int×Int=>Z0z_L1 t (j:Int) st ⟨(t.Dims.set j n).take l,List.replicate (pr ((t.Dims.set j n).take l)).toNat 0⟩ s.1 s.2) (Post:=fun r=>RG (pr ((t.Dims.set j n).take l)).toNat r) (pr ((t.Dims.set j n).take l)).toNat t.Data.length
      (fun k hk x i=>by
       have u:=iz h.d.2.1 (k:Int)
       have U:=jQ t.Dims (k:Int)
       have B:=u.mem (j:=j) (by omega)
       have G:=u.mem (j:=l) (by omega)
       have z0:0≤ix (iy t.Dims (k:Int)) (j:Int)*st:=Int.mul_nonneg B.1 (by omega)
       have z1:ix (iy t.Dims (k:Int)) (j:Int)*st≤(n - ix t.Dims (l:Int)) / st*st:=Int.mul_le_mul_of_nonneg_right (by omega) (by omega)
       have T:aK (aK (ix (iy t.Dims (k:Int)) (j:Int)*st)+ix (iy t.Dims (k:Int)) (l:Int))=ix (iy t.Dims (k:Int)) (j:Int)*st+ix (iy t.Dims (k:Int)) (l:Int):=by
        rw [bG (n:=ix (iy t.Dims (k:Int)) (j:Int)*st) (by omega) (by omega),bG (by omega) (by omega)]
       have b:=ru (mI (m:=n) (x:=ix (iy t.Dims (k:Int)) (j:Int)*st+ix (iy t.Dims (k:Int)) (l:Int)) D u (by omega) (by omega)) l
       have tk:TT ⟨(t.Dims.set j n).take l,x⟩:=iA g5 i
       obtain ⟨y,y1,y2⟩:=nQ (t:=⟨(t.Dims.set j n).take l,x⟩) tk b
       obtain ⟨m,m1,m2⟩:=ov y (ix t.Data (k:Int))
       simp only [Z0z_L1,g,w2]
       rw [if_pos (by simp; omega),jR h.d (by omega) (by omega)]
       simp only [Option.bind_some]
       rw [if_pos (by omega),if_pos (by omega),T,jT (by omega) (by omega)]
       simp only [Option.bind_some]
       rw [if_pos (by simp; omega),lm,y1]
       simp only [Option.bind_some]
       rw [if_pos (by omega),m1]
       simp only [Option.bind_some]
       rw [tF (t:=⟨(t.Dims.set j n).take l,x⟩) g5 tk.l b,cA (by unfold cJ; omega)]
       exact ⟨_,rfl,i.set m2 _⟩)
      (fun x i=>by simp only [Z0z_L1]; rw [if_neg (by simp)]; exact ⟨x,rfl,i⟩) (RG.rep _)
     rw [M]
     exact ⟨r,rfl,iA g5 O⟩
    ·simp only [decide_eq_false g5,Option.bind_some,Bool.not_false,if_true]
     exact ⟨fun q=>absurd q.2.2.2.2.2.2.2.2 g5,fun _=>by trivial⟩
   ·rw [if_pos (by simp [c6])]
    exact ⟨fun q=>absurd q.2.2.2.2.2.2.2.1 c6,fun _=>by trivial⟩
  ·rw [if_pos (by simp; omega)]
   exact ⟨fun q=>absurd q.2.2.2.2.2.2.1 c5,fun _=>by trivial⟩
 ·rw [if_pos (by simp only [Bool.or_eq_true,Bool.not_eq_true',decide_eq_true_eq,decide_eq_false_iff_not,beq_iff_eq]; omega)]
  exact ⟨fun q=>absurd ⟨⟨q.1,q.2.1⟩,q.2.2.1,q.2.2.2.1,q.2.2.2.2.1,q.2.2.2.2.2.1⟩ c,fun _=>by trivial⟩
theorem xX {t:Tensor}(h:TT t){j:Nat}(q:j<t.Dims.length){is:List Int}(u:IV t.Dims is):∃ xs,Z15 t (j:Int) is=some xs∧xs.length≤4096:=by
 have I:=kR h
 have E:=u.len
 have J:=h.d.2.mem (bF q)
 unfold Z15
 obtain ⟨r,B,D⟩:=hO (f:=fun s:List Int×Int=>Z15_L1 t (j:Int) is s.1 s.2) (fun k s=>s.2=(k:Int)∧s.1.length=k) (ix t.Dims (j:Int)).toNat (Post:=fun r=>r.length≤4096)
  (fun k s G l=>by
   obtain ⟨x,i⟩:=s
   obtain ⟨a,g⟩:=l
   simp only at a g
   subst a
   have b:IV t.Dims (is.set j (k:Int)):=by
    have:=mI (m:=ix t.Dims (j:Int)) (x:=(k:Int)) q u (by omega) (by omega)
    have e:t.Dims.set j (ix t.Dims (j:Int))=t.Dims:=by rw [bV q]; simp
    rw [e] at this; exact this
   obtain ⟨y,F,_⟩:=nQ h b
   simp only [Z15_L1]
   rw [if_pos (by omega),if_pos (by simp; omega),jT (by omega) (by omega)]
   simp only [Option.bind_some,F]
   rw [if_pos (by simp; omega),cA (by unfold cJ; omega)]
   exact ⟨_,rfl,rfl,by simp [g]⟩)
  (fun s l=>by
   obtain ⟨x,i⟩:=s
   obtain ⟨a,g⟩:=l
   simp only at a g
   subst a
   simp only [Z15_L1]
   rw [if_pos (by omega),if_neg (by simp; omega)]
   exact ⟨x,rfl,by omega⟩) (s:=([],0)) ⟨rfl,rfl⟩
 rw [B]
 exact ⟨r,rfl,D⟩
theorem AN {t:Tensor}(h:TT t){a:Int}:(0≤a∧a<(t.Dims.length:Int)→∃ d,Zd t a=some ⟨t.Dims,d⟩∧TOk t.Dims d)∧(¬ (0≤a∧a<(t.Dims.length:Int))→Zd t a=some ⟨[],[]⟩):=by
 have M:=kR h
 unfold Zd
 rw [ll h]
 simp only [Option.bind_some]
 by_cases g1:0≤a∧a<(t.Dims.length:Int)
 ·obtain ⟨j,rfl⟩:=Int.eq_ofNat_of_zero_le g1.1
  have F:j<t.Dims.length:=by omega
  rw [decide_eq_true g1,if_neg (by simp),ld h.d]
  simp only [Option.bind_some]
  refine ⟨fun _=>?_,fun q=>absurd g1 q⟩
  have T:=h.d.2.2
  have O:(pr t.Dims).toNat=t.Data.length:=(pA h).1.symm
  obtain ⟨r,m,B⟩:=lj (f:=fun s:List Int×Int=>Zd_L1 t (j:Int) ⟨t.Dims,List.replicate (pr t.Dims).toNat 0⟩ s.1 s.2) (Post:=fun r=>RG (pr t.Dims).toNat r) (pr t.Dims).toNat t.Data.length
   (fun k L x g=>by
    have D:=iz h.d.2.1 (k:Int)
    have E:=jQ t.Dims (k:Int)
    obtain ⟨xs,J,Y⟩:=xX h F D
    simp only [Zd_L1]
    rw [if_pos (by simp; omega),jR h.d (by omega) (by omega)]
    simp only [Option.bind_some,J]
    obtain ⟨b,l,_⟩:=hO (f:=fun s:Bool×Int=>Zd_L2 t (j:Int) (k:Int) (iy t.Dims (k:Int)) xs s.1 s.2) (fun q s=>s.2=(q:Int)) xs.length (Post:=fun _=>True)
     (fun q s U e=>by
      obtain ⟨b,i⟩:=s
      simp only at e
      subst e
      obtain ⟨u,G⟩:=kj (ix xs (q:Int))
      obtain ⟨v,I⟩:=kj (ix t.Data (k:Int))
      simp only [Zd_L2,Zd_J6]
      rw [if_pos (by simp; omega),if_pos (by omega),G]
      simp only [Option.bind_some]
      rw [if_pos (by omega),I]
      simp only [Option.bind_some]
      rw [if_pos (fun _ _=>by omega),cA (by unfold cJ; omega)]
      split<;>exact ⟨_,rfl,rfl⟩)
     (fun s e=>by
      obtain ⟨b,i⟩:=s
      simp only at e
      subst e
      simp only [Zd_L2]
      rw [if_neg (by simp)]
      exact ⟨b,rfl,trivial⟩) (s:=(true,0)) rfl
    rw [l]
    simp only [Option.bind_some,Zd_J7,Zd_J8]
    rw [cA (by unfold cJ; omega)]
    split
    ·rw [if_pos (by simp; omega)]
     exact ⟨_,rfl,g.set (by decide) _⟩
    ·exact ⟨_,rfl,g⟩)
   (fun x g=>by simp only [Zd_L1]; rw [if_neg (by simp)]; exact ⟨x,rfl,g⟩) (RG.rep _)
  rw [m]
  exact ⟨r,rfl,iA h.d B⟩
 ·rw [decide_eq_false g1,if_pos (by simp)]
  exact ⟨fun q=>absurd q g1,fun _=>by trivial⟩
theorem mm {α R:Type}{f:List α×Int→Option ((List α×Int)⊕R)}(n w a:Nat){Post:R→Prop}(x:List α)(m:∀ j:Nat,j<n→∀ y,y.length+w≤a→∃ g,f (y,(j:Int))=some (.inl (g,((j+1:Nat):Int)))∧g.length≤y.length+w)
  (l:∀ y,y.length≤x.length+n*w→∃ r,f (y,(n:Int))=some (.inr r)∧Post r) (u:x.length+n*w≤a):∃ r,aU f (x,0)=some r∧Post r :=
 hO (f:=f) (fun j s=>s.2=(j:Int)∧s.1.length≤x.length+j*w) n (fun j s h b=>by
  obtain ⟨y,i⟩:=s
  obtain ⟨rfl,e⟩:=b
  have h1:(j+1)*w≤n*w:=Nat.mul_le_mul_right w h
  rw [Nat.succ_mul] at h1
  simp only at e
  obtain ⟨g,g1,q⟩:=m j h y (by omega)
  exact ⟨_,g1,rfl,by rw [Nat.succ_mul]; simp only; omega⟩) (fun s b=>by
  obtain ⟨y,i⟩:=s
  obtain ⟨rfl,e⟩:=b
  exact l y e) (s:=(x,0)) ⟨rfl,by simp⟩
theorem oz {xs:List Int}(h:xs.length≤6){j:Nat}(a:j<xs.length)(x:Int):Z1r xs (j:Int) x=some (xs.set j x):=by
 unfold Z1r
 rw [fO (by omega)]
 simp only [Option.bind_some]
 rw [if_pos (by omega),Int.toNat_natCast]
theorem rv {ds:List Int}(h:eK ds){j:Nat}(a:j<ds.length):Z29 ds (j:Int)=some (pr (ds.take j),ix ds (j:Int),pr (ds.drop (j+1))):=by
 have b:=h.1
 unfold Z29
 rw [if_pos (by omega),lm,lU (by simp [cJ]; omega) (h.2.take j)]
 simp only [Option.bind_some]
 rw [if_pos (by omega),cA (by unfold cJ; omega),if_pos (by omega),iD,Int.toNat_natCast,lU (by simp [cJ]; omega) (h.2.drop (j+1))]
 rfl
theorem oA {ds:List Int}(h:eK ds){j:Nat}(I:j<ds.length)(n:Int){l:List pair}(J:l.length≤4096):∃ ps,Z9 ds (j:Int) n l=some ps:=by
 have Z:=h.1
 unfold Z9
 rw [rv h I]
 simp only [Option.bind_some]
 obtain ⟨a,F⟩:∃ a:Nat,(a:Int)=pr (ds.take j):=⟨(pr (ds.take j)).toNat,by have:=(h.2.take j).pos; omega⟩
 obtain ⟨b,G⟩:∃ b:Nat,(b:Int)=pr (ds.drop (j+1)):=⟨(pr (ds.drop (j+1))).toNat,by have:=(h.2.drop (j+1)).pos; omega⟩
 have a1:=(h.2.take j).2
 have m:=(h.2.drop (j+1)).2
 have a0:=(h.2.take j).pos
 have B:=(h.2.drop (j+1)).pos
 rw [← F] at a1 a0 ⊢
 rw [← G] at m B ⊢
 have k1:(a:Int)*b≤4096*4096:=Int.mul_le_mul a1 m (by omega) (by omega)
 have M:0≤(a:Int)*b:=Int.mul_nonneg (by omega) (by omega)
 have k3:(a:Int)*b*l.length≤4096*4096*4096:=Int.mul_le_mul k1 (by omega) (by omega) (by omega)
 have k4:0≤(a:Int)*b*l.length:=Int.mul_nonneg M (by omega)
 have O:l.length*b≤4096*4096:=Nat.mul_le_mul J (by omega)
 have u:a*(l.length*b)≤4096*(4096*4096):=Nat.mul_le_mul (by omega) O
 rw [bG (n:=(a:Int)*b) (by omega) (by omega),bG (by omega) (by omega),if_pos (by omega)]
 obtain ⟨r,e,_⟩:=mm (f:=fun s:List pair×Int=>Z9_L1 n l ((a:Int),ix ds (j:Int),(b:Int)) s.1 s.2) a (l.length*b) 8796093022208 (Post:=fun _=>True) []
  (fun i U y L=>by
   simp only [Z9_L1,Z9_J6]
   rw [if_pos (by simp; omega),cA (by unfold cJ; omega)]
   obtain ⟨r2,D,T⟩:=mm (f:=fun s:List pair×Int=>Z9_L2 n l ((a:Int),ix ds (j:Int),(b:Int)) (i:Int) s.1 s.2) l.length b 8796093022208 (Post:=fun r=>r.length≤y.length+l.length*b) y
    (fun k Y z hz=>by
     simp only [Z9_L2,Z9_J5]
     rw [if_pos (by simp; omega),if_pos (by omega),cA (by unfold cJ; omega)]
     obtain ⟨r3,E,p3⟩:=mm (f:=fun s:List pair×Int=>Z9_L3 n l ((a:Int),ix ds (j:Int),(b:Int)) (i:Int) (k:Int) s.1 s.2) b 1 8796093022208 (Post:=fun r=>r.length≤z.length+b*1) z
      (fun q hq v g=>by
       simp only [Z9_L3]
       rw [if_pos (by simp; omega),if_pos (by simp; omega),cA (by unfold cJ; omega)]
       exact ⟨_,rfl,by simp⟩)
      (fun v g=>by simp only [Z9_L3]; rw [if_neg (by simp)]; exact ⟨v,rfl,g⟩) (by omega)
     rw [E]
     exact ⟨_,rfl,by omega⟩)
    (fun v g=>by simp only [Z9_L2]; rw [if_neg (by simp)]; exact ⟨v,rfl,g⟩) L
   rw [D]
   exact ⟨_,rfl,T⟩)
  (fun v g=>by simp only [Z9_L1]; rw [if_neg (by simp)]; exact ⟨v,rfl,trivial⟩) (by simp; omega)
 rw [e]
 exact ⟨r,rfl⟩
theorem lV {xs:List Int}{p:Int→Prop}(i:∀ x,Decidable (p x))(h:¬ ∀ x∈xs,p x):∃ m,m<xs.length∧¬ p (ix xs (m:Int))∧∀ k:Nat,k<m→p (ix xs (k:Int)):=by
 induction xs with
 | nil=>exact absurd (fun x g=>by cases g) h
 | cons x xs ih =>
  by_cases c:p x
  ·obtain ⟨m,h1,h2,b⟩:=ih fun q=>h fun y a=>by
    rcases List.mem_cons.1 a with rfl | a
    ·exact c
    ·exact q y a
   refine ⟨m+1,by simpa using h1,by rw [dS]; exact h2,?_⟩
   intro k e
   cases k with
   | zero=>exact c
   | succ k=>rw [dS]; exact b k (by omega)
  ·exact ⟨0,by simp,c,fun k e=>by omega⟩
def Sh (o:Option (List Int×List pair×Bool))(c:Prop)[Decidable c](d:List Int):Prop:=∃ ds ps,o=some (ds,ps,decide c)∧(c→ds=d)
theorem tV {ds:List Int}(h:eK ds){a:Int}{xs:List Int}(Z:xs.length<cJ):Sh (Z0g ds a xs) (ng ds a xs) (ds.set a.toNat (xs.length:Int)):=by
 have M:=h.1
 unfold Z0g
 simp only [Zn,Option.bind_some]
 by_cases c:(0≤a∧a<(ds.length:Int))∧xs≠[]∧xs.length≤4096
 ·obtain ⟨g1,E,U⟩:=c
  obtain ⟨j,rfl⟩:=Int.eq_ofNat_of_zero_le g1.1
  have I:j<ds.length:=by omega
  have Y:xs.length≠0:=fun e=>E (List.eq_nil_of_length_eq_zero e)
  rw [if_neg (by simp [E]; omega)]
  by_cases g5:∀ x∈xs,0≤x∧x<ix ds (j:Int)
  ·obtain ⟨r,B,D⟩:=hO (f:=fun s:List pair×Int=>Z0g_L1 ds (j:Int) xs s.1 s.2) (fun k s=>s.2=(k:Int)∧s.1.length=k) xs.length (Post:=fun r=>∃ l,r=.inr l∧l.length≤4096)
    (fun k s F u=>by
     obtain ⟨y,i⟩:=s
     obtain ⟨b,g⟩:=u
     simp only at b g
     subst b
     have:=g5 _ (bF F)
     simp only [Z0g_L1]
     rw [if_pos (by simp; omega),if_pos (by omega),if_pos (fun _=>g1),if_neg (by simp; omega),if_pos (by simp; omega),cA (by unfold cJ; omega)]
     exact ⟨_,rfl,rfl,by simp [g]⟩)
    (fun s u=>by
     obtain ⟨y,i⟩:=s
     obtain ⟨b,g⟩:=u
     simp only at b g
     subst b
     simp only [Z0g_L1]
     rw [if_neg (by simp)]
     exact ⟨_,rfl,y,rfl,by omega⟩) (s:=([],0)) ⟨rfl,rfl⟩
   obtain ⟨l,rfl,L⟩:=D
   rw [B]
   simp only [Option.bind_some,Z0g_J1]
   rw [oz M I]
   simp only [Option.bind_some]
   rw [iw (by simp [cJ]; omega)]
   by_cases g6:eK (ds.set j (xs.length:Int))
   ·have T:ng ds (j:Int) xs:=⟨g1.1,g1.2,E,g5,by simpa using g6⟩
    obtain ⟨ps,G⟩:=oA h I (xs.length:Int) L
    simp only [decide_eq_true g6,Option.bind_some,Bool.not_true,Bool.false_eq_true,if_false]
    rw [G]
    exact ⟨_,ps,by rw [decide_eq_true T]; rfl,fun _=>by simp⟩
   ·have no:¬ ng ds (j:Int) xs:=fun q=>g6 (by simpa using q.2.2.2.2)
    simp only [decide_eq_false g6,Option.bind_some,Bool.not_false,if_true]
    exact ⟨_,_,by rw [decide_eq_false no],fun q=>absurd q no⟩
  ·have no:¬ ng ds (j:Int) xs:=fun q=>g5 q.2.2.2.1
   obtain ⟨m,m1,m2,O⟩:=lV (fun _=>inferInstance) g5
   obtain ⟨r,B,D⟩:=hO (f:=fun s:List pair×Int=>Z0g_L1 ds (j:Int) xs s.1 s.2) (fun k s=>s.2=(k:Int)∧s.1.length=k) m (Post:=fun r=>r=.inl ([],[],false))
    (fun k s F u=>by
     obtain ⟨y,i⟩:=s
     obtain ⟨b,g⟩:=u
     simp only at b g
     subst b
     have:=O k F
     simp only [Z0g_L1]
     rw [if_pos (by simp; omega),if_pos (by omega),if_pos (fun _=>g1),if_neg (by simp; omega),if_pos (by simp; omega),cA (by unfold cJ; omega)]
     exact ⟨_,rfl,rfl,by simp [g]⟩)
    (fun s u=>by
     obtain ⟨y,i⟩:=s
     obtain ⟨b,g⟩:=u
     simp only at b g
     subst b
     simp only [Z0g_L1]
     rw [if_pos (by simp; omega),if_pos (by omega),if_pos (fun _=>g1),if_pos (by simp only [Bool.or_eq_true,decide_eq_true_eq]; omega)]
     exact ⟨_,rfl,rfl⟩) (s:=([],0)) ⟨rfl,rfl⟩
   rw [B,D]
   exact ⟨_,_,by rw [decide_eq_false no]; rfl,fun q=>absurd q no⟩
 ·have no:¬ ng ds a xs:=fun q=>c ⟨⟨q.1,q.2.1⟩,q.2.2.1,by
   have:=q.2.2.2.2.2.mem (d:=(xs.length:Int)) (by
    have:a.toNat<ds.length:=by have:=q.1; have:=q.2.1; omega
    exact List.mem_iff_getElem.2 ⟨a.toNat,by simpa using this,by simp⟩)
   omega⟩
  have J:((!(decide (a≥0)&&decide (a<(ds.length:Int)))||(xs.length:Int)==0)||decide ((xs.length:Int)>4096))=true:=by
   by_cases q:0≤a∧a<(ds.length:Int)
   ·by_cases q2:xs=[]
    ·subst q2; simp
    ·have:¬ xs.length≤4096:=fun z=>c ⟨q,q2,z⟩
     have:(xs.length:Int)>4096:=by omega
     simp [this]
   ·have:(decide (a≥0)&&decide (a<(ds.length:Int)))=false:=by simp; omega
    rw [this]; rfl
  rw [if_pos J]
  exact ⟨_,_,by rw [decide_eq_false no],fun q=>absurd q no⟩
theorem rX {ds:List Int}(h:eK ds){a n:Int}{xs:List Int}(U:xs.length<cJ):Sh (Z0h ds a xs n) (mu ds a xs n) (ds.set a.toNat n):=by
 have L:=h.1
 unfold Z0h
 simp only [Zn,Option.bind_some]
 by_cases g1:0≤a∧a<(ds.length:Int)
 ·obtain ⟨j,rfl⟩:=Int.eq_ofNat_of_zero_le g1.1
  have u:j<ds.length:=by omega
  have Y:=h.2.mem (bF u)
  rw [if_pos (fun _=>g1)]
  by_cases c:(xs.length:Int)=ix ds (j:Int)∧1≤n
  ·obtain ⟨I,T⟩:=c
   rw [if_neg (by simp; omega)]
   by_cases g5:∀ x∈xs,0≤x∧x<n
   ·obtain ⟨r,B,D⟩:=hO (f:=fun s:List pair×Int=>Z0h_L1 xs n s.1 s.2) (fun k s=>s.2=(k:Int)∧s.1.length=k) xs.length (Post:=fun r=>∃ l,r=.inr l∧l.length≤4096)
     (fun k s E g=>by
      obtain ⟨y,i⟩:=s
      obtain ⟨b,e⟩:=g
      simp only at b e
      subst b
      have:=g5 _ (bF E)
      simp only [Z0h_L1]
      rw [if_pos (by simp; omega),if_pos (by omega),if_neg (by simp; omega),if_pos (by simp; omega),cA (by unfold cJ; omega)]
      exact ⟨_,rfl,rfl,by simp [e]⟩)
     (fun s g=>by
      obtain ⟨y,i⟩:=s
      obtain ⟨b,e⟩:=g
      simp only at b e
      subst b
      simp only [Z0h_L1]
      rw [if_neg (by simp)]
      exact ⟨_,rfl,y,rfl,by omega⟩) (s:=([],0)) ⟨rfl,rfl⟩
    obtain ⟨l,rfl,J⟩:=D
    rw [B]
    simp only [Option.bind_some,Z0h_J1]
    rw [oz L u]
    simp only [Option.bind_some]
    rw [iw (by simp [cJ]; omega)]
    by_cases g6:eK (ds.set j n)
    ·have O:mu ds (j:Int) xs n:=⟨g1.1,g1.2,I,g5,by simpa using g6⟩
     obtain ⟨ps,F⟩:=oA h u n J
     simp only [decide_eq_true g6,Option.bind_some,Bool.not_true,Bool.false_eq_true,if_false]
     rw [F]
     exact ⟨_,ps,by rw [decide_eq_true O]; rfl,fun _=>by simp⟩
    ·have no:¬ mu ds (j:Int) xs n:=fun q=>g6 (by simpa using q.2.2.2.2)
     simp only [decide_eq_false g6,Option.bind_some,Bool.not_false,if_true]
     exact ⟨_,_,by rw [decide_eq_false no],fun q=>absurd q no⟩
   ·have no:¬ mu ds (j:Int) xs n:=fun q=>g5 q.2.2.2.1
    obtain ⟨m,Z,m2,M⟩:=lV (fun _=>inferInstance) g5
    obtain ⟨r,B,D⟩:=hO (f:=fun s:List pair×Int=>Z0h_L1 xs n s.1 s.2) (fun k s=>s.2=(k:Int)∧s.1.length=k) m (Post:=fun r=>r=.inl ([],[],false))
     (fun k s E g=>by
      obtain ⟨y,i⟩:=s
      obtain ⟨b,e⟩:=g
      simp only at b e
      subst b
      have:=M k E
      simp only [Z0h_L1]
      rw [if_pos (by simp; omega),if_pos (by omega),if_neg (by simp; omega),if_pos (by simp; omega),cA (by unfold cJ; omega)]
      exact ⟨_,rfl,rfl,by simp [e]⟩)
     (fun s g=>by
      obtain ⟨y,i⟩:=s
      obtain ⟨b,e⟩:=g
      simp only at b e
      subst b
      simp only [Z0h_L1]
      rw [if_pos (by simp; omega),if_pos (by omega),if_pos (by simp only [Bool.or_eq_true,decide_eq_true_eq]; omega)]
      exact ⟨_,rfl,rfl⟩) (s:=([],0)) ⟨rfl,rfl⟩
    rw [B,D]
    exact ⟨_,_,by rw [decide_eq_false no]; rfl,fun q=>absurd q no⟩
  ·have no:¬ mu ds (j:Int) xs n:=fun q=>c ⟨q.2.2.1,by
    have:=q.2.2.2.2.2.1 n (List.mem_iff_getElem.2 ⟨j,by simpa using u,by simp⟩)
    exact this⟩
   rw [if_pos (by
    by_cases q:(xs.length:Int)=ix ds (j:Int)
    ·have:n<1:=by
      rcases Int.lt_or_le n 1 with z | z
      ·exact z
      ·exact absurd ⟨q,z⟩ c
     simp [this]
    ·simp [q])]
   exact ⟨_,_,by rw [decide_eq_false no],fun q=>absurd q no⟩
 ·have no:¬ mu ds a xs n:=fun q=>g1 ⟨q.1,q.2.1⟩
  have G:(decide (a≥0)&&decide (a<(ds.length:Int)))=false:=by simp; omega
  rw [G,if_pos (fun q=>by cases q),if_pos (by simp)]
  exact ⟨_,_,by rw [decide_eq_false no],fun q=>absurd q no⟩
theorem AO {ds:List Int}(h:eK ds){a b f g:Int}:Sh (Zy ds a b f g) (nh ds a b f g) (ds.set a.toNat (kb ds a b f g)):=by
 have Y:=h.1
 unfold Zy
 simp only [Zn,Option.bind_some]
 by_cases g1:0≤a∧a<(ds.length:Int)
 ·obtain ⟨j,rfl⟩:=Int.eq_ofNat_of_zero_le g1.1
  have B:j<ds.length:=by omega
  have hm:=h.2.mem (bF B)
  rw [if_neg (by simp; omega)]
  have lp:=fA [b,f,g] (fun s:Int=>Zy_L1 b f g s) (fun i=>i) (fun x=>!(decide (x<0)||decide (x>4096))) (.inl (([]:List Int),([]:List pair),false)) (.inr ())
   (fun k T=>by
    simp only [List.length_cons,List.length_nil] at T
    simp only [Zy_L1]
    rw [if_pos (by simp; omega),if_pos (by simp; omega),cA (by unfold cJ; omega)]
    cases (decide (ix [b,f,g] (k:Int)<0)||decide (ix [b,f,g] (k:Int)>4096))<;>rfl)
   (by simp only [Zy_L1]; rw [if_neg (by simp)])
  rw [lp]
  by_cases c:0≤b∧b≤4096∧0≤f∧f≤4096∧0≤g∧g≤4096
  ·obtain ⟨I,J,L,M,m,E⟩:=c
   have u:([b,f,g].all fun x=>!(decide (x<0)||decide (x>4096)))=true:=by
    rw [List.all_eq_true]
    intro x Z
    have:x=b∨x=f∨x=g:=by simpa using Z
    simp; rcases this with rfl | rfl | rfl<;>omega
   rw [u]
   simp only [if_true,Option.bind_some,Zy_J1]
   have k0:0≤(ix ds (j:Int) - 1)*g:=Int.mul_nonneg (by omega) m
   have k1:=Int.mul_le_mul (show ix ds (j:Int) - 1≤4096 by omega) E m (show (0:Int)≤4096 by omega)
   have e:aK (aK (aK (b+ix ds (j:Int))+aK (aK (ix ds (j:Int) - 1)*g))+f)=kb ds (j:Int) b f g:=by
    rw [bG (n:=b+ix ds (j:Int)) (by omega) (by omega),bG (n:=ix ds (j:Int) - 1) (by omega) (by omega),bG (n:=(ix ds (j:Int) - 1)*g) (by omega) (by omega),bG (n:=b+ix ds (j:Int)+(ix ds (j:Int) - 1)*g) (by omega) (by omega),bG (by omega) (by omega)]
    rfl
   rw [if_pos g1,e,oz Y B]
   simp only [Option.bind_some]
   rw [iw (by simp [cJ]; omega)]
   by_cases g6:eK (ds.set j (kb ds (j:Int) b f g))
   ·have ok:nh ds (j:Int) b f g:=⟨g1.1,g1.2,I,J,L,M,m,E,by simpa using g6⟩
    simp only [decide_eq_true g6,Option.bind_some,Bool.not_true,Bool.false_eq_true,if_false]
    obtain ⟨l,O,U⟩:=mm (f:=fun s:List pair×Int=>Zy_L2 ds (j:Int) b g s.1 s.2) (ix ds (j:Int)).toNat 1 8796093022208 (Post:=fun r=>r.length≤4096) []
     (fun q hq v F=>by
      simp only [Zy_L2]
      rw [if_pos (by simp; omega),if_pos (by simp; omega),cA (by unfold cJ; omega)]
      exact ⟨_,rfl,by simp⟩)
     (fun v F=>by
      simp only [Zy_L2]
      simp at F
      rw [if_neg (by simp; omega)]
      exact ⟨v,rfl,by omega⟩) (by simp; omega)
    rw [O]
    simp only [Option.bind_some,Zy_J2]
    obtain ⟨ps,D⟩:=oA h B (kb ds (j:Int) b f g) U
    rw [e,D]
    exact ⟨_,ps,by rw [decide_eq_true ok]; rfl,fun _=>by simp⟩
   ·have no:¬ nh ds (j:Int) b f g:=fun q=>g6 (by simpa using q.2.2.2.2.2.2.2.2)
    simp only [decide_eq_false g6,Option.bind_some,Bool.not_false,if_true]
    exact ⟨_,_,by rw [decide_eq_false no],fun q=>absurd q no⟩
  ·have no:¬ nh ds (j:Int) b f g:=fun q=>c ⟨q.2.2.1,q.2.2.2.1,q.2.2.2.2.1,q.2.2.2.2.2.1,q.2.2.2.2.2.2.1,q.2.2.2.2.2.2.2.1⟩
   have u:([b,f,g].all fun x=>!(decide (x<0)||decide (x>4096)))=false:=by
    simp only [List.all_cons,List.all_nil,Bool.and_true,Bool.and_eq_false_iff,Bool.not_eq_false',Bool.or_eq_true,decide_eq_true_eq]
    omega
   rw [u]
   exact ⟨_,_,by rw [decide_eq_false no]; rfl,fun q=>absurd q no⟩
 ·have no:¬ nh ds a b f g:=fun q=>g1 ⟨q.1,q.2.1⟩
  have G:(decide (a≥0)&&decide (a<(ds.length:Int)))=false:=by simp; omega
  rw [G,if_pos (by simp)]
  exact ⟨_,_,by rw [decide_eq_false no],fun q=>absurd q no⟩
theorem xY {ds:List Int}(h:eK ds){a st n:Int}:Sh (Z5 ds a st n) (mw ds a st n) ((ds.set a.toNat n).take (ds.length - 1)):=by
 have hn:=h.1
 have w1:aK ((ds.length:Int) - 1)=(ds.length:Int) - 1:=bG (by omega) (by omega)
 unfold Z5
 simp only [Zn,Option.bind_some,w1]
 by_cases c:(0≤a∧a<(ds.length:Int))∧a≠(ds.length:Int) - 1∧1≤st∧1≤n∧n≤4096
 ·obtain ⟨g1,M,c2,c3,c4⟩:=c
  obtain ⟨j,rfl⟩:=Int.eq_ofNat_of_zero_le g1.1
  have hj:j<ds.length:=by omega
  obtain ⟨l,D⟩:∃ l,l=ds.length - 1:=⟨_,rfl⟩
  have g:(ds.length:Int) - 1=(l:Int):=by omega
  have J:aK (l:Int)=(l:Int):=bG (by omega) (by omega)
  have hm:=h.2.mem (bF hj)
  have a0:=h.2.mem (bF (xs:=ds) (k:=l) (by omega))
  have b0:(decide ((j:Int)≥0)&&decide ((j:Int)<(ds.length:Int)))=true:=by simp; omega
  rw [g] at M ⊢
  have G:((((!(decide ((j:Int)≥0)&&decide ((j:Int)<(ds.length:Int)))||((j:Int)==(l:Int)))||decide (st<1))||decide (n<1))||decide (n>4096))=false:=by rw [b0]; simp; omega
  have m:mw ds (j:Int) st n↔0≤(j:Int)∧(j:Int)<(ds.length:Int)∧(j:Int)≠(l:Int)∧1≤st∧1≤n∧n≤4096∧ix ds (l:Int)≤n∧(n - ix ds (l:Int)) / st+1=ix ds (j:Int)∧eK ((ds.set j n).take l):=by
   unfold mw
   rw [g,← D,Int.toNat_natCast]
  rw [G]
  rw [if_pos (fun _=>by omega),if_pos (fun _=>g1),if_pos (fun _=>by omega),if_pos (fun _=>by omega)]
  by_cases c5:ix ds (l:Int)≤n
  ·have q0:0≤(n - ix ds (l:Int)) / st:=Int.ediv_nonneg (by omega) (by omega)
   have q1:(n - ix ds (l:Int)) / st≤n - ix ds (l:Int):=Int.ediv_le_self _ (by omega)
   have e:aK (aK ((aK (n - ix ds (l:Int))).tdiv st)+1)=(n - ix ds (l:Int)) / st+1:=by
    rw [bG (n:=n - ix ds (l:Int)) (by omega) (by omega),Int.tdiv_eq_ediv_of_nonneg (by omega),bG (n:=(n - ix ds (l:Int)) / st) (by omega) (by omega),bG (by omega) (by omega)]
   rw [e]
   by_cases c6:(n - ix ds (l:Int)) / st+1=ix ds (j:Int)
   ·rw [if_neg (by simp [c6]; omega),oz hn hj]
    simp only [Option.bind_some,Int.toNat_natCast]
    rw [if_pos (by simp; omega),lm,iw (by simp [cJ]; omega)]
    by_cases g5:eK ((ds.set j n).take l)
    ·simp only [decide_eq_true g5,Option.bind_some,Bool.not_true,Bool.false_eq_true,if_false]
     have ok:mw ds (j:Int) st n:=m.2 ⟨g1.1,g1.2,M,c2,c3,c4,c5,c6,g5⟩
     rw [if_pos g1]
     have j1:∀ s:Int,∃ ps,Z5_J1 ds (j:Int) n (ds.set j n) s=some ((ds.set j n).take l,ps,true):=by
      intro s
      have b:eK (ds.take l):=⟨by simp; omega,h.2.take l⟩
      simp only [Z5_J1,g,J]
      rw [if_pos (by omega),lm,rv b (by simp; omega)]
      simp only [Option.bind_some]
      obtain ⟨A,T⟩:∃ A:Nat,(A:Int)=pr ((ds.take l).take j):=⟨(pr ((ds.take l).take j)).toNat,by have:=(b.2.take j).pos; omega⟩
      obtain ⟨L,Y⟩:∃ L:Nat,(L:Int)=ix (ds.take l) (j:Int):=⟨(ix (ds.take l) (j:Int)).toNat,by have:=b.2.mem (bF (xs:=ds.take l) (k:=j) (by simp; omega)); omega⟩
      obtain ⟨B,U⟩:∃ B:Nat,(B:Int)=pr ((ds.take l).drop (j+1)):=⟨(pr ((ds.take l).drop (j+1))).toNat,by have:=(b.2.drop (j+1)).pos; omega⟩
      obtain ⟨Z,hZ⟩:∃ Z:Nat,(Z:Int)=ix ds (l:Int):=⟨(ix ds (l:Int)).toNat,by omega⟩
      have a1:=(b.2.take j).2
      have G:=(b.2.drop (j+1)).2
      have l1:=b.2.mem (bF (xs:=ds.take l) (k:=j) (by simp; omega))
      rw [← T] at a1 ⊢
      rw [← U] at G ⊢
      rw [← Y] at l1 ⊢
      have m1:B*(Z*1)≤4096*4096:=Nat.mul_le_mul (by omega) (by omega)
      have m2:L*(B*(Z*1))≤4096*(4096*4096):=Nat.mul_le_mul (by omega) m1
      have m3:A*(L*(B*(Z*1)))≤64*(4096*(4096*4096))∨True:=.inr trivial
      -- the product of all four is the size of the cC
      have I:pr (ds.take l)=pr ((ds.take l).take j)*(ix (ds.take l) (j:Int)*pr ((ds.take l).drop (j+1))):=by
       rw [hJ (ds.take l) j]
       have:(ds.take l).drop j=ix (ds.take l) (j:Int)::(ds.take l).drop (j+1):=by rw [List.drop_eq_getElem_cons (by simp; omega),bV (by simp; omega)]
       rw [this]; rfl
      rw [← T,← Y,← U] at I
      have h4:A*(L*B)≤4096:=by
       have:=b.2.2
       rw [I] at this
       have O:((A*(L*B):Nat):Int)=(A:Int)*((L:Int)*(B:Int)):=by simp
       omega
      have m4:A*(L*(B*(Z*1)))≤4096*4096:=by
       have e5:A*(L*(B*(Z*1)))=A*(L*B)*Z:=by rw [Nat.mul_one,Nat.mul_assoc,Nat.mul_assoc]
       rw [e5]
       exact Nat.mul_le_mul h4 (by omega)
      obtain ⟨r,e1,_⟩:=mm (f:=fun q:List pair×Int=>Z5_L1 ds n s ((A:Int),(L:Int),(B:Int)) q.1 q.2) A (L*(B*(Z*1))) 8796093022208 (Post:=fun _=>True) []
       (fun i hi y hy=>by
        simp only [Z5_L1,Z5_J15]
        rw [if_pos (by simp; omega),cA (by unfold cJ; omega)]
        obtain ⟨r2,e2,p2⟩:=mm (f:=fun q:List pair×Int=>Z5_L2 ds n s ((A:Int),(L:Int),(B:Int)) (i:Int) q.1 q.2) L (B*(Z*1)) 8796093022208 (Post:=fun r=>r.length≤y.length+L*(B*(Z*1))) y
         (fun k hk z hz=>by
          simp only [Z5_L2,Z5_J14]
          rw [if_pos (by simp; omega),cA (by unfold cJ; omega)]
          obtain ⟨r3,e3,p3⟩:=mm (f:=fun q:List pair×Int=>Z5_L3 ds n s ((A:Int),(L:Int),(B:Int)) (i:Int) (k:Int) q.1 q.2) B (Z*1) 8796093022208 (Post:=fun r=>r.length≤z.length+B*(Z*1)) z
           (fun p hp u hu=>by
            simp only [Z5_L3,Z5_J13]
            rw [if_pos (by simp; omega),cA (by unfold cJ; omega)]
            obtain ⟨r4,O,p4⟩:=mm (f:=fun q:List pair×Int=>Z5_L4 ds n s ((A:Int),(L:Int),(B:Int)) (i:Int) (k:Int) (p:Int) q.1 q.2) Z 1 8796093022208 (Post:=fun r=>r.length≤u.length+Z*1) u
             (fun o ho v F=>by
              simp only [Z5_L4,g,J]
              rw [if_pos (by omega),if_pos (by simp; omega),if_pos (by simp; omega),cA (by unfold cJ; omega)]
              exact ⟨_,rfl,by simp⟩)
             (fun v F=>by
              simp only [Z5_L4,g,J]
              rw [if_pos (by omega),if_neg (by simp; omega)]
              exact ⟨v,rfl,F⟩) (by omega)
            rw [O]
            exact ⟨_,rfl,p4⟩)
           (fun v F=>by simp only [Z5_L3]; rw [if_neg (by simp)]; exact ⟨v,rfl,F⟩) hz
          rw [e3]
          exact ⟨_,rfl,p3⟩)
         (fun v F=>by simp only [Z5_L2]; rw [if_neg (by simp)]; exact ⟨v,rfl,F⟩) hy
        rw [e2]
        exact ⟨_,rfl,p2⟩)
       (fun v F=>by simp only [Z5_L1]; rw [if_neg (by simp)]; exact ⟨v,rfl,trivial⟩) (by simp only [List.length_nil]; omega)
      rw [e1]
      simp only [Option.bind_some,Z5_J16,g,J]
      rw [lm]
      exact ⟨r,rfl⟩
     by_cases g7:ix ds (j:Int)=1
     ·rw [if_pos (by simp [g7])]
      obtain ⟨ps,E⟩:=j1 0
      rw [E]
      exact ⟨_,ps,by rw [decide_eq_true ok],fun _=>by rw [← D]⟩
     ·rw [if_neg (by simp [g7])]
      obtain ⟨ps,E⟩:=j1 st
      rw [E]
      exact ⟨_,ps,by rw [decide_eq_true ok],fun _=>by rw [← D]⟩
    ·simp only [decide_eq_false g5,Option.bind_some,Bool.not_false,if_true]
     exact ⟨_,_,by rw [decide_eq_false (fun q=>g5 (m.1 q).2.2.2.2.2.2.2.2)],fun q=>absurd (m.1 q).2.2.2.2.2.2.2.2 g5⟩
   ·rw [if_pos (by simp only [Bool.or_eq_true,bne_iff_ne]; exact .inr fun z=>c6 z.symm)]
    exact ⟨_,_,by rw [decide_eq_false (fun q=>c6 (m.1 q).2.2.2.2.2.2.2.1)],fun q=>absurd (m.1 q).2.2.2.2.2.2.2.1 c6⟩
  ·rw [if_pos (by simp only [Bool.or_eq_true,Bool.false_or,decide_eq_true_eq]; exact .inl (by omega))]
   exact ⟨_,_,by rw [decide_eq_false (fun q=>c5 (m.1 q).2.2.2.2.2.2.1)],fun q=>absurd (m.1 q).2.2.2.2.2.2.1 c5⟩
 ·have no:¬ mw ds a st n:=fun q=>c ⟨⟨q.1,q.2.1⟩,q.2.2.1,q.2.2.2.1,q.2.2.2.2.1,q.2.2.2.2.2.1⟩
  have G:((((!(decide (a≥0)&&decide (a<(ds.length:Int)))||(a==(ds.length:Int) - 1))||decide (st<1))||decide (n<1))||decide (n>4096))=true:=by
   simp only [Bool.or_eq_true,Bool.not_eq_true',decide_eq_true_eq,Bool.and_eq_false_iff,decide_eq_false_iff_not,beq_iff_eq]
   omega
  rw [G,if_pos (fun q=>by simp at q),if_pos (fun q=>by simp at q),if_pos (fun q=>by simp at q),if_pos (fun q=>by simp at q),if_pos (by simp)]
  exact ⟨_,_,by rw [decide_eq_false no],fun q=>absurd q no⟩
theorem ln (n:Node)(u:aP)(bd b a bx:Bool)(h1:Z7 hW u=some bd)(h2:Z7 fF u=some b)(e:Z7 kB u=some a)(g:Z7 ph u=some bx) :
  Z22 n u=some ((((bd||((n.Dims.length:Int)==(0:Int)))&&(b||((n.Ints.length:Int)==(0:Int))))&&(a||(n.Form==([]:aP))))&&(bx||((n.Data.length:Int)==(0:Int)))):=by
 unfold Z22
 rw [h1,h2,e,g]
 simp only [Option.bind_some]
 generalize ((n.Dims.length:Int)==(0:Int))=x1
 generalize ((n.Ints.length:Int)==(0:Int))=x2
 generalize (n.Form==([]:aP))=x3
 generalize ((n.Data.length:Int)==(0:Int))=x4
 cases bd<;>cases x1<;>cases b<;>cases x2<;>cases a<;>cases x3<;>cases bx<;>cases x4<;>rfl
theorem tW:Z7 hW []=some false:=by kernel_rfl
theorem tX:Z7 fF []=some false:=by kernel_rfl
theorem tY:Z7 kB []=some false:=by kernel_rfl
theorem tZ:Z7 ph []=some false:=by kernel_rfl
theorem qf:Z7 hW hW=some true:=by kernel_rfl
theorem qg:Z7 fF hW=some false:=by kernel_rfl
theorem qh:Z7 kB hW=some false:=by kernel_rfl
theorem qi:Z7 ph hW=some false:=by kernel_rfl
theorem kS:Z7 hW fF=some false:=by kernel_rfl
theorem kT:Z7 fF fF=some true:=by kernel_rfl
theorem kU:Z7 kB fF=some false:=by kernel_rfl
theorem kV:Z7 ph fF=some false:=by kernel_rfl
theorem xZ:Z7 hW pg=some true:=by kernel_rfl
theorem y0:Z7 fF pg=some false:=by kernel_rfl
theorem y6:Z7 kB pg=some false:=by kernel_rfl
theorem y7:Z7 ph pg=some true:=by kernel_rfl
theorem y8:Z7 hW kB=some false:=by kernel_rfl
theorem y9:Z7 fF kB=some false:=by kernel_rfl
theorem ya:Z7 kB kB=some true:=by kernel_rfl
theorem yb:Z7 ph kB=some false:=by kernel_rfl
def oB (n:Node)(m:Nat):Prop:=∀ a∈n.Args,0≤a∧a<(m:Int)
instance (n:Node)(m:Nat):Decidable (oB n m):=by unfold oB; infer_instance
theorem yc {n:Node}{b:List (List Int)}(j:b.length≤4096)(i:n.Args.length≤6):aU (fun s:List (List Int)×Int=>Zi_L1 n b s.1 s.2) ([],0)=some (if oB n b.length then .inr (n.Args.map fun a=>ix b a) else .inl ([],false)):=by
 have e:∀ k:Nat,k<n.Args.length→(0≤ix n.Args (k:Int)∧ix n.Args (k:Int)<(b.length:Int))→(fun s:List (List Int)×Int=>Zi_L1 n b s.1 s.2) ((n.Args.take k).map fun a=>ix b a,(k:Int))=some (.inl ((n.Args.take (k+1)).map fun a=>ix b a,((k+1:Nat):Int))):=by
  intro k g hw
  simp only [Zi_L1]
  rw [if_pos (by simp; omega),if_pos (by omega),if_neg (by simp; omega),if_pos hw,if_pos (by simp; omega),cA (by unfold cJ; omega),List.take_succ_eq_append_getElem g,List.map_append,bV g]
  rfl
 by_cases c:oB n b.length
 ·rw [if_pos c]
  refine eR (fun k=>((n.Args.take k).map fun a=>ix b a,(k:Int))) n.Args.length (fun k g=>e k g (c _ (bF g))) ?_ rfl
  simp only [Zi_L1]
  rw [if_neg (by simp),List.take_length]
 ·rw [if_neg c]
  obtain ⟨m,l,q,h⟩:=lV (p:=fun a=>0≤a∧a<(b.length:Int)) (fun _=>inferInstance) c
  refine eR (fun k=>((n.Args.take k).map fun a=>ix b a,(k:Int))) m (fun k g=>e k (by omega) (h k g)) ?_ rfl
  simp only [Zi_L1]
  rw [if_pos (by simp; omega),if_pos (by omega),if_pos (by simp only [Bool.or_eq_true,decide_eq_true_eq]; omega)]
theorem yd {n:Node}{b:List (List Int)}(i:b.length≤4096){kd:kindOfR}{u:aP}{e:Bool}(h:Zx n.Op=some kd)(l:Nat.beq kd.t 0=false)(m:gK kd=some u)(j:Z22 n u=some e) :
  Zi n b=if e=true∧n.Args.length≤6 then (if oB n b.length then bU kd n (n.Args.map fun a=>ix b a) else some ([],false)) else some ([],false):=by
 unfold Zi
 rw [h]
 simp only [Option.bind_some,l,bT,Bool.not_false,cond_true,m,j,Bool.false_or]
 by_cases c:e=true∧n.Args.length≤6
 ·obtain ⟨rfl,g⟩:=c
  rw [if_neg (by simp; omega),if_pos ⟨rfl,g⟩,yc i g]
  by_cases w:oB n b.length
  ·rw [if_pos w,if_pos w]
   simp only [Option.bind_some,Zi_J1]
   cases bU kd n (n.Args.map fun a=>ix b a)<;>rfl
  ·rw [if_neg w,if_neg w]
   rfl
 ·rw [if_neg c,if_pos]
  cases e
  ·rfl
  ·have:¬ n.Args.length≤6:=fun z=>c ⟨rfl,z⟩
   simp; omega
def FM (n:Node)(lo a:Int)(b:Bool)(ui uj:Int):Prop:=lo≤(n.Args.length:Int)∧(n.Args.length:Int)≤a∧(b=true∨n.Dims=[])∧(n.Op=11∨n.Form=[])∧(n.Op=2∨n.Data=[])∧ui≤(n.Ints.length:Int)∧(n.Ints.length:Int)≤uj
instance (n:Node)(lo hi:Int)(ud:Bool)(ui uj:Int):Decidable (FM n lo hi ud ui uj):=by unfold FM; infer_instance
theorem hK {n:Node}{lo b ui uj:Int}{a:Bool}(h1:1≤n.Op)(h2:n.Op≤19)(l:Z36 n.Op=some (lo,b))(m:Z3h n.Op=some a)(e:Z1g n.Op=some ui)(g:uj=if n.Op=16∨n.Op=17 then ui+4096 else ui)(r:0≤ui∧ui≤100) :
  Z1d n=some (decide (FM n lo b a ui uj)):=by
 unfold Z1d
 rw [if_neg (by simp; omega),l]
 simp only [Option.bind_some]
 by_cases c1:lo≤(n.Args.length:Int)∧(n.Args.length:Int)≤b
 ·rw [if_neg (by simp; omega),m]
  simp only [Option.bind_some]
  by_cases c2:(a=true∨n.Dims=[])∧(n.Op=11∨n.Form=[])∧(n.Op=2∨n.Data=[])
  ·obtain ⟨d1,d2,d3⟩:=c2
   have h:((!a)&&decide ((n.Dims.length:Int)>0))=false:=by
    rcases d1 with d | d<;>simp [d]
   have i:((n.Op != 11)&&(!(n.Form==([]:aP))))=false:=by
    rcases d2 with d | d<;>simp [d]
   have j:((n.Op != 2)&&decide ((n.Data.length:Int)>0))=false:=by
    rcases d3 with d | d<;>simp [d]
   rw [h,i,j,if_neg (by simp),e]
   simp only [Option.bind_some]
   by_cases c3:n.Op=16∨n.Op=17
   ·rw [if_pos (by simpa using c3),bG (by omega) (by omega)]
    rw [if_pos c3] at g
    congr 1
    rw [Bool.eq_iff_iff]
    simp only [Bool.and_eq_true,decide_eq_true_eq]
    unfold FM
    exact ⟨fun q=>⟨c1.1,c1.2,d1,d2,d3,q.1,by omega⟩,fun q=>⟨q.2.2.2.2.2.1,by have:=q.2.2.2.2.2.2; omega⟩⟩
   ·rw [if_neg (by simpa using c3)]
    rw [if_neg c3] at g
    congr 1
    rw [Bool.eq_iff_iff]
    simp only [beq_iff_eq,decide_eq_true_eq]
    unfold FM
    exact ⟨fun q=>⟨c1.1,c1.2,d1,d2,d3,by omega,by omega⟩,fun q=>by have:=q.2.2.2.2.2.1; have:=q.2.2.2.2.2.2; omega⟩
  ·have no:¬ FM n lo b a ui uj:=fun q=>c2 ⟨q.2.2.1,q.2.2.2.1,q.2.2.2.2.1⟩
   rw [decide_eq_false no,if_pos]
   refine Classical.byContradiction fun z=>c2 ?_
   simp only [Bool.or_eq_true,Bool.and_eq_true,Bool.not_eq_true',decide_eq_true_eq,bne_iff_ne,beq_eq_false_iff_ne,not_or,not_and] at z
   refine ⟨?_,?_,?_⟩
   ·cases a
    ·refine .inr (List.eq_nil_of_length_eq_zero ?_); have:=z.1.1 rfl; omega
    ·exact .inl rfl
   ·by_cases q:n.Op=11
    ·exact .inl q
    ·exact .inr (Classical.not_not.1 (z.1.2 q))
   ·by_cases q:n.Op=2
    ·exact .inl q
    ·refine .inr (List.eq_nil_of_length_eq_zero ?_); have:=z.2 q; omega
 ·have no:¬ FM n lo b a ui uj:=fun q=>c1 ⟨q.1,q.2.1⟩
  rw [decide_eq_false no,if_pos (by simp only [Bool.or_eq_true,decide_eq_true_eq]; omega)]
noncomputable def Do (n:Node)(out:List Tensor):Option Tensor:=if n.Op=1 then Z0y n.Dims 0 else Z2 n (n.Args.map fun a=>ix out a)
def pB (n:Node)(out:List Tensor)(o:Option (List Int×Bool)):Prop :=
 (∃ t,o=some (t.Dims,true)∧Z1d n=some true∧oB n out.length∧Do n out=some t∧TT t) ∨
 (∃ ds,o=some (ds,false)∧(Z1d n=some false∨Z1d n=some true∧(oB n out.length→Do n out=some ⟨[],[]⟩)))
structure Caps (n:Node)(out:List Tensor):Prop where
 a:n.Args.length<cJ
 d:n.Dims.length<cJ
 i:n.Ints.length<cJ
 x:n.Data.length<cJ
 f:n.Form.length≤1048576
 o:out.length≤200
 t:∀ t∈out,TT t
theorem ky {out:List Tensor}{a:Int}(e:0≤a)(h1:a<(out.length:Int)):ix (out.map Tensor.Dims) a=(ix out a).Dims∧ix out a∈out:=by
 obtain ⟨k,rfl⟩:=Int.eq_ofNat_of_zero_le e
 have b:k<out.length:=by omega
 rw [bV (by simpa using b),bV b]
 exact ⟨by simp,List.getElem_mem b⟩
theorem ni {n:Node}{out:List Tensor}(m:Caps n out){kd:kindOfR}{u:aP}{e fb:Bool}(r:Zx n.Op=some kd)(D:Nat.beq kd.t 0=false)(E:gK kd=some u)(B:Z22 n u=some e)(b:Z1d n=some fb)
  (h1:fb=true→e=true∧n.Args.length≤6)
  (h2:e=true→oB n out.length→fb=false→∃ ds,bU kd n ((n.Args.map fun a=>ix out a).map Tensor.Dims)=some (ds,false))
  (l:fb=true→oB n out.length→∃ t,(bU kd n ((n.Args.map fun a=>ix out a).map Tensor.Dims)=some (t.Dims,true)∧Do n out=some t∧TT t)∨∃ ds,bU kd n ((n.Args.map fun a=>ix out a).map Tensor.Dims)=some (ds,false)∧Do n out=some ⟨[],[]⟩) :
  pB n out (Zi n (out.map Tensor.Dims)):=by
 have I:=m.o
 rw [yd (by simp; omega) r D E B]
 have i:oB n out.length→(n.Args.map fun a=>ix (out.map Tensor.Dims) a)=(n.Args.map fun a=>ix out a).map Tensor.Dims:=by
  intro w
  rw [List.map_map]
  exact List.map_congr_left fun a j=>(ky (w a j).1 (w a j).2).1
 have s:(out.map Tensor.Dims).length=out.length:=by simp
 rw [s]
 cases fb with
 | true =>
  obtain ⟨p1,F⟩:=h1 rfl
  rw [if_pos ⟨p1,F⟩]
  by_cases w:oB n out.length
  ·rw [if_pos w,i w]
   obtain ⟨t,q⟩:=l rfl w
   rcases q with ⟨g,h,G⟩|⟨ds,g,h⟩
   ·exact .inl ⟨t,g,b,w,h,G⟩
   ·exact .inr ⟨ds,g,.inr ⟨b,fun _=>h⟩⟩
  ·rw [if_neg w]
   exact .inr ⟨[],rfl,.inr ⟨b,fun z=>absurd z w⟩⟩
 | false =>
  by_cases c:e=true∧n.Args.length≤6
  ·rw [if_pos c]
   by_cases w:oB n out.length
   ·rw [if_pos w,i w]
    obtain ⟨ds,q⟩:=h2 c.1 w rfl
    exact .inr ⟨ds,q,.inl b⟩
   ·rw [if_neg w]
    exact .inr ⟨[],rfl,.inl b⟩
  ·rw [if_neg c]
   exact .inr ⟨[],rfl,.inl b⟩
theorem sh2 (b i j s n args):bU ⟨2,b,i,j,s⟩ n args=Z2a ⟨i⟩ n args:=rfl
theorem lX {n:Node}{b:Bool}{args:List (List Int)}(g:n.Dims.length<cJ)(h:n.Data.length<cJ):Z1q ⟨b⟩ n args=some (if args=[]∧eK n.Dims∧(b=true→TOk n.Dims n.Data) then (n.Dims,true) else ([],false)):=by
 unfold Z1q
 by_cases c1:args=[]
 ·subst c1
  have a:(((([]:List (List Int)).length:Int)) != 0)=false:=rfl
  simp only [a,bT,Bool.not_false,cond_true,Bool.false_or]
  rw [iw g]
  simp only [Option.bind_some]
  by_cases c2:eK n.Dims
  ·simp only [decide_eq_true c2,Bool.not_true,Bool.not_false,Bool.true_and,Bool.false_or]
   cases b with
   | false=>simp [c2]
   | true =>
    rw [cond_true,xI (t:=⟨n.Dims,n.Data⟩) g h]
    by_cases c3:TOk n.Dims n.Data
    ·simp [c2,c3]
    ·simp [c2,c3]
  ·simp [decide_eq_false c2,c2]
 ·have a:((args.length:Int) != 0)=true:=by
   have:args.length≠0:=fun e=>c1 (List.eq_nil_of_length_eq_zero e)
   simp; omega
  simp only [a,bT,Bool.not_true,Bool.not_false,cond_false,Bool.true_or,Option.bind_some,Bool.false_and]
  simp [c1]
theorem lq {α:Type}(xs:List α):((xs.length:Int)=0)↔xs=[]:=by
 exact ⟨fun h=>List.eq_nil_of_length_eq_zero (by omega),fun h=>by simp [h]⟩
theorem t' {n:Node}{out:List Tensor}(b:Caps n out)(a:n.Op=1):pB n out (Zi n (out.map Tensor.Dims)):=by
 refine ni b (kd:=⟨1,false,0,0,[]⟩) (u:=hW) (fb:=decide (FM n 0 0 true 0 0)) (by rw [a]; rfl) rfl rfl (ln n hW true false false false qf qg qh qi) (hK (by omega) (by omega) (by rw [a]; rfl) (by rw [a]; rfl) (by rw [a]; rfl) (by rw [a]; rfl) ⟨by omega,by omega⟩) ?_ ?_ ?_
 ·intro g
  obtain ⟨f1,m,r,i,j,s,B⟩:=of_decide_eq_true g
  have D:n.Form=[]:=i.resolve_left (by omega)
  have E:n.Data=[]:=j.resolve_left (by omega)
  have F:n.Ints=[]:=List.eq_nil_of_length_eq_zero (by omega)
  exact ⟨by rw [D,E,F]; rfl,by omega⟩
 ·intro h hw g
  show ∃ ds,Z1q ⟨false⟩ n _=_
  rw [lX b.d b.x]
  have:n.Args≠[]:=by
   intro e
   refine of_decide_eq_false g ?_
   simp only [Bool.true_or,Bool.false_or,Bool.true_and,Bool.and_eq_true,lq,beq_iff_eq] at h
   refine ⟨by rw [e]; decide,by rw [e]; decide,.inl rfl,.inr h.1.2,.inr h.2,by omega,by rw [h.1.1]; decide⟩
  rw [if_neg (by simp [this])]
  exact ⟨_,rfl⟩
 ·intro g hw
  obtain ⟨f1,m,r,i,j,s,B⟩:=of_decide_eq_true g
  have G:n.Args=[]:=List.eq_nil_of_length_eq_zero (by omega)
  obtain ⟨a1,l⟩:=tT b.d
  by_cases c:eK n.Dims
  ·obtain ⟨d,d1,d2⟩:=a1 c
   refine ⟨⟨n.Dims,d⟩,.inl ⟨?_,by unfold Do; rw [if_pos a]; exact d1,d2⟩⟩
   show Z1q ⟨false⟩ n _=_
   rw [lX b.d b.x,if_pos ⟨by simp [G],c,by simp⟩]
  ·refine ⟨⟨[],[]⟩,.inr ⟨[],?_,by unfold Do; rw [if_pos a]; exact l c⟩⟩
   show Z1q ⟨false⟩ n _=_
   rw [lX b.d b.x,if_neg (fun q=>c q.2.1)]
theorem u0 {n:Node}{out:List Tensor}(b:Caps n out)(a:n.Op=2):pB n out (Zi n (out.map Tensor.Dims)):=by
 refine ni b (kd:=⟨1,true,0,0,[]⟩) (u:=pg) (fb:=decide (FM n 0 0 true 0 0)) (by rw [a]; rfl) rfl rfl (ln n pg true false false true xZ y0 y6 y7) (hK (by omega) (by omega) (by rw [a]; rfl) (by rw [a]; rfl) (by rw [a]; rfl) (by rw [a]; rfl) ⟨by omega,by omega⟩) ?_ ?_ ?_
 ·intro h
  obtain ⟨f1,m,r,j,s,B,D⟩:=of_decide_eq_true h
  have E:n.Form=[]:=j.resolve_left (by omega)
  have F:n.Ints=[]:=List.eq_nil_of_length_eq_zero (by omega)
  exact ⟨by rw [E,F]; rfl,by omega⟩
 ·intro i hw h
  show ∃ ds,Z1q ⟨true⟩ n _=_
  rw [lX b.d b.x]
  have:n.Args≠[]:=by
   intro e
   refine of_decide_eq_false h ?_
   simp only [Bool.true_or,Bool.false_or,Bool.true_and,Bool.and_true,Bool.and_eq_true,lq,beq_iff_eq] at i
   refine ⟨by rw [e]; decide,by rw [e]; decide,.inl rfl,.inr i.2,.inl a,by omega,by rw [i.1]; decide⟩
  rw [if_neg (by simp [this])]
  exact ⟨_,rfl⟩
 ·intro h hw
  obtain ⟨f1,m,r,j,s,B,D⟩:=of_decide_eq_true h
  have G:n.Args=[]:=List.eq_nil_of_length_eq_zero (by omega)
  have g:Do n out=if TOk n.Dims n.Data then some ⟨n.Dims,n.Data⟩ else some ⟨[],[]⟩:=by
   unfold Do Z2
   rw [if_neg (by omega),if_pos (by simp [a]),tD (t:=⟨n.Dims,n.Data⟩) b.d b.x]
   simp only [Option.bind_some]
   by_cases c:TOk n.Dims n.Data
   ·have h1:=c.l
    have h2:=c.d.1
    have I:=c.d.2.2
    rw [decide_eq_true c,if_pos c,if_neg (by simp),gU (by omega),gU (by omega)]
    rfl
   ·rw [decide_eq_false c,if_neg c,if_pos (by simp)]
  by_cases c:TOk n.Dims n.Data
  ·rw [if_pos c] at g
   refine ⟨⟨n.Dims,n.Data⟩,.inl ⟨?_,g,c⟩⟩
   show Z1q ⟨true⟩ n _=_
   rw [lX b.d b.x,if_pos ⟨by simp [G],c.d,fun _=>c⟩]
  ·rw [if_neg c] at g
   refine ⟨⟨[],[]⟩,.inr ⟨[],?_,g⟩⟩
   show Z1q ⟨true⟩ n _=_
   rw [lX b.d b.x,if_neg (fun q=>c (q.2.2 rfl))]
theorem u4 {i:Int}{n:Node}{args:List (List Int)}(b:∀ a∈args,a.length<cJ):Z2a ⟨i⟩ n args=some (if args.length=2∧ix args 0=ix args 1 then (ix args 0,true) else ([],false)):=by
 unfold Z2a
 by_cases c:args.length=2
 ·have e:((args.length:Int) != 2)=false:=by simp [c]
  rw [e,if_pos (fun _=>by omega),if_pos (fun _=>by omega)]
  simp only [bT,Bool.not_false,cond_true,Bool.false_or]
  have g:ix args (0:Int)∈args:=bF (k:=0) (by omega)
  rw [ri (b _ g)]
  simp only [Option.bind_some]
  by_cases q:ix args 0=ix args 1
  ·rw [decide_eq_true q,if_neg (by simp),if_pos (by omega),if_pos ⟨c,q⟩]
  ·rw [decide_eq_false q,if_pos (by simp),if_neg (fun z=>q z.2)]
 ·have e:((args.length:Int) != 2)=true:=by simp; omega
  rw [e,if_pos (fun z=>by cases z),if_pos (fun z=>by cases z)]
  simp only [bT,Bool.not_true,cond_false,Option.bind_some,Bool.true_or,if_true]
  rw [if_neg (fun z=>c z.1)]
theorem kl {n:Node}{out:List Tensor}(e:Caps n out)(hw:oB n out.length):∀ t∈(n.Args.map fun a=>ix out a),TT t:=by
 intro t g
 obtain ⟨a,b,rfl⟩:=List.mem_map.1 g
 exact e.t _ (ky (hw a b).1 (hw a b).2).2
theorem vL {n:Node}{out:List Tensor}(D:Caps n out)(h3:3≤n.Op)(h5:n.Op≤5):pB n out (Zi n (out.map Tensor.Dims)):=by
 have g:n.Op=3∨n.Op=4∨n.Op=5:=by omega
 refine ni D (kd:=⟨2,false,n.Op - 2,0,[]⟩) (u:=[]) (fb:=decide (FM n 2 2 false 0 0)) (by rcases g with h | h | h<;>rw [h]<;>rfl) rfl rfl (ln n [] false false false false tW tX tY tZ) (hK (by omega) (by omega) (by rcases g with h | h | h<;>rw [h]<;>rfl) (by rcases g with h | h | h<;>rw [h]<;>rfl) (by rcases g with h | h | h<;>rw [h]<;>rfl) (by rw [if_neg (by omega)]) ⟨by omega,by omega⟩) ?_ ?_ ?_
 ·intro j
  obtain ⟨f1,O,G,I,J,T,U⟩:=of_decide_eq_true j
  have Y:n.Dims=[]:=G.resolve_left (by simp)
  have Z:n.Form=[]:=I.resolve_left (by omega)
  have g5:n.Data=[]:=J.resolve_left (by omega)
  have g6:n.Ints=[]:=List.eq_nil_of_length_eq_zero (by omega)
  exact ⟨by rw [Y,Z,g5,g6]; rfl,by omega⟩
 ·intro l hw j
  show ∃ ds,Z2a ⟨n.Op - 2⟩ n _=_
  have i:=kl D hw
  rw [u4 (fun a B=>by
   obtain ⟨t,m,rfl⟩:=List.mem_map.1 B
   have:=kR (i t m); unfold cJ; omega)]
  have:n.Args.length≠2:=by
   intro e
   refine of_decide_eq_false j ?_
   simp only [Bool.false_or,Bool.and_eq_true,lq,beq_iff_eq] at l
   refine ⟨by omega,by omega,.inr l.1.1.1,.inr l.1.2,.inr l.2,by omega,by rw [l.1.1.2]; decide⟩
  rw [if_neg (by simp [this])]
  exact ⟨_,rfl⟩
 ·intro j hw
  obtain ⟨f1,O,G,I,J,T,U⟩:=of_decide_eq_true j
  have i:=kl D hw
  obtain ⟨A,s⟩:∃ A,A=n.Args.map fun a=>ix out a:=⟨_,rfl⟩
  have hl:A.length=2:=by rw [s]; simp; omega
  rw [← s] at i ⊢
  obtain ⟨t,u,rfl⟩:∃ t u,A=[t,u]:=by
   match A,hl with
   | [t,u],_=>exact ⟨t,u,rfl⟩
  have m:TT t:=i t (by simp)
  have M:TT u:=i u (by simp)
  have L:bU ⟨2,false,n.Op - 2,0,[]⟩ n ([t,u].map Tensor.Dims)=some (if t.Dims=u.Dims then (t.Dims,true) else ([],false)):=by
   rw [sh2,u4 (fun a B=>by
    have:a=t.Dims∨a=u.Dims:=by simpa using B
    have:=kR m; have:=kR M
    unfold cJ
    rcases ‹a=t.Dims∨a=u.Dims› with rfl | rfl<;>omega)]
   by_cases q:t.Dims=u.Dims
   ·rw [if_pos q,if_pos ⟨rfl,q⟩]; rfl
   ·rw [if_neg q,if_neg (fun z=>q z.2)]
  have b:Do n out=(Zw t.Dims u.Dims).bind fun E=>if (!E)=true then some ⟨[],[]⟩ else (Z19 (aK (aK (n.Op - 3)+1)) t u).bind fun F=>some F:=by
   unfold Do Z2
   rw [if_neg (by omega),← s,if_neg (by simp; omega)]
   rcases g with h | h | h
   ·rw [if_pos (by simp [h])]; simp only [Z2_J1,h]; rfl
   ·rw [if_neg (by simp [h]),if_pos (by simp [h])]; simp only [Z2_J1,h]; rfl
   ·rw [if_neg (by simp [h]),if_neg (by simp [h])]; simp only [Z2_J1,h]; rfl
  rw [pZ (by have:=kR m; unfold cJ; omega)] at b
  simp only [Option.bind_some] at b
  by_cases q:t.Dims=u.Dims
  ·rw [decide_eq_true q,if_neg (by simp)] at b
   have r:aK (aK (n.Op - 3)+1)=n.Op - 2:=by rw [bG (n:=n.Op - 3) (by omega) (by omega),bG (by omega) (by omega)]; omega
   rw [r] at b
   obtain ⟨d,d1,d2⟩:=AL (op:=n.Op - 2) m M q (by omega) (by omega)
   rw [d1] at b
   exact ⟨⟨t.Dims,d⟩,.inl ⟨by rw [L,if_pos q],b,d2⟩⟩
  ·rw [decide_eq_false q,if_pos (by simp)] at b
   exact ⟨⟨[],[]⟩,.inr ⟨[],by rw [L,if_neg q],b⟩⟩
theorem iE {n:Node}{out:List Tensor}(B:Caps n out){kd:kindOfR}{u:aP}{s g:Bool}{ui uj:Int}(hk:Zx n.Op=some kd)(ht:Nat.beq kd.t 0=false)(hu:gK kd=some u)
  (h1:Z7 hW u=some s) (h2:Z7 fF u=some g) (h3:Z7 kB u=some false) (h4:Z7 ph u=some false)
  (b:Z1d n=some (decide (FM n 1 1 s ui uj))) (h:n.Op≠1∧n.Op≠2∧n.Op≠11) (J:g=false→ui=0∧uj=0)
  (sa:∀ args:List (List Int),args.length≠1→bU kd n args=some ([],false))
  (si:∀ t:Tensor,TT t→¬ (ui≤(n.Ints.length:Int)∧(n.Ints.length:Int)≤uj)→g=true→∃ ds,bU kd n [t.Dims]=some (ds,false))
  (m:FM n 1 1 s ui uj→∀ t:Tensor,TT t→(∃ r,bU kd n [t.Dims]=some (r.Dims,true)∧Z2 n [t]=some r∧TT r)∨∃ ds,bU kd n [t.Dims]=some (ds,false)∧Z2 n [t]=some ⟨[],[]⟩) :
  pB n out (Zi n (out.map Tensor.Dims)):=by
 refine ni B hk ht hu (ln n u s g false false h1 h2 h3 h4) b ?_ ?_ ?_
 ·intro b
  obtain ⟨f1,L,F,G,I,M,O⟩:=of_decide_eq_true b
  have U:n.Form=[]:=G.resolve_left h.2.2
  have Y:n.Data=[]:=I.resolve_left h.2.1
  refine ⟨?_,by omega⟩
  have Z:(g||((n.Ints.length:Int)==0))=true:=by
   cases g
   ·obtain ⟨rfl,rfl⟩:=J rfl
    have:n.Ints=[]:=List.eq_nil_of_length_eq_zero (by omega)
    rw [this]; rfl
   ·rfl
  have T:(s||((n.Dims.length:Int)==0))=true:=by
   rcases F with q | q
   ·rw [q]; rfl
   ·rw [q]; simp
  rw [T,Z,U,Y]; rfl
 ·intro l hw b
  have j:=kl B hw
  by_cases e:n.Args.length=1
  ·obtain ⟨A,i⟩:∃ A,A=n.Args.map fun a=>ix out a:=⟨_,rfl⟩
   have E:A.length=1:=by rw [i]; simp [e]
   rw [← i] at j ⊢
   obtain ⟨t,rfl⟩:∃ t,A=[t]:=by
    match A,E with
    | [t],_=>exact ⟨t,rfl⟩
   simp only [Bool.false_or,Bool.and_eq_true,Bool.or_eq_true,lq,beq_iff_eq] at l
   have no:¬ (ui≤(n.Ints.length:Int)∧(n.Ints.length:Int)≤uj):=by
    intro z
    exact of_decide_eq_false b ⟨by omega,by omega,l.1.1.1,.inr l.1.2,.inr l.2,z.1,z.2⟩
   cases g with
   | true=>exact si t (j t (by simp)) no rfl
   | false =>
    obtain ⟨rfl,rfl⟩:=J rfl
    have:n.Ints=[]:=by simpa using l.1.1.2
    exact absurd ⟨by omega,by rw [this]; decide⟩ no
  ·exact ⟨_,sa _ (by simpa using e)⟩
 ·intro b hw
  have hF:=of_decide_eq_true b
  obtain ⟨f1,L,F,G,I,M,O⟩:=hF
  have j:=kl B hw
  obtain ⟨A,i⟩:∃ A,A=n.Args.map fun a=>ix out a:=⟨_,rfl⟩
  have E:A.length=1:=by rw [i]; simp; omega
  have D:Do n out=Z2 n A:=by unfold Do; rw [if_neg h.1,i]
  rw [D]
  rw [← i] at j ⊢
  obtain ⟨t,rfl⟩:∃ t,A=[t]:=by
   match A,E with
   | [t],_=>exact ⟨t,rfl⟩
  rcases m (of_decide_eq_true b) t (j t (by simp)) with ⟨r,q⟩ | q
  ·exact ⟨r,.inl q⟩
  ·exact ⟨⟨[],[]⟩,.inr q⟩
theorem CC (b i j s n args):bU ⟨3,b,i,j,s⟩ n args=Z33 ⟨i⟩ n args:=rfl
theorem Ca (b i j s n args):bU ⟨4,b,i,j,s⟩ n args=Z23 ⟨⟩ n args:=rfl
theorem wQ (b i j s n args):bU ⟨6,b,i,j,s⟩ n args=Z1y ⟨s⟩ n args:=rfl
theorem CD (b i j s n args):bU ⟨7,b,i,j,s⟩ n args=Z2b ⟨s⟩ n args:=rfl
theorem Cb (b i j s n args):bU ⟨8,b,i,j,s⟩ n args=Z1u ⟨s⟩ i j n args:=rfl
theorem Cc (b i j s n args):bU ⟨9,b,i,j,s⟩ n args=Z1v ⟨s⟩ i j n args:=rfl
theorem ye (b i j s n args):bU ⟨10,b,i,j,s⟩ n args=Z1w ⟨s⟩ i j n args:=rfl
theorem yf (b i j s n args):bU ⟨11,b,i,j,s⟩ n args=Z1x ⟨s⟩ i j n args:=rfl
theorem yg (n:Node)(t:Tensor)(h:6≤n.Op∧n.Op≤9):Z2 n [t]=(Z18 (aK (aK (n.Op - 6)+1)) t).bind fun r=>some r:=by
 have a:n.Op=6∨n.Op=7∨n.Op=8∨n.Op=9:=by omega
 unfold Z2
 rcases a with h | h | h | h<;>simp only [Z2_J1,Z2_J2,h]<;>rfl
theorem vM {n:Node}{out:List Tensor}(g:Caps n out)(h:6≤n.Op∧n.Op≤9):pB n out (Zi n (out.map Tensor.Dims)):=by
 have a:n.Op=6∨n.Op=7∨n.Op=8∨n.Op=9:=by omega
 refine iE g (kd:=⟨3,false,n.Op - 5,0,[]⟩) (u:=[]) (ui:=0) (uj:=0) (by rcases a with h | h | h | h<;>rw [h]<;>rfl) rfl rfl tW tX tY tZ (hK (by omega) (by omega) (by rcases a with h | h | h | h<;>rw [h]<;>rfl) (by rcases a with h | h | h | h<;>rw [h]<;>rfl) (by rcases a with h | h | h | h<;>rw [h]<;>rfl) (by rw [if_neg (by omega)]) ⟨by omega,by omega⟩) ⟨by omega,by omega,by omega⟩ (fun _=>⟨rfl,rfl⟩) ?_ ?_ ?_
 ·intro args j
  rw [CC]; unfold Z33
  rw [if_pos (by simp; omega)]
 ·intro _ _ _ e; cases e
 ·intro _ t i
  have b:aK (aK (n.Op - 6)+1)=n.Op - 5:=by rw [bG (n:=n.Op - 6) (by omega) (by omega),bG (by omega) (by omega)]; omega
  obtain ⟨d,d1,d2⟩:=AK (op:=n.Op - 5) i (by omega) (by omega)
  exact .inl ⟨⟨t.Dims,d⟩,by rw [CC]; rfl,by rw [yg n t h,b,d1]; rfl,d2⟩
theorem yh {n:Node}{out:List Tensor}(B:Caps n out)(h:n.Op=10):pB n out (Zi n (out.map Tensor.Dims)):=by
 have b:∀ args:List (List Int),args.length≠1∨n.Ints.length≠1→Z23 ⟨⟩ n args=some ([],false):=by
  intro args g
  unfold Z23
  have e:(((args.length:Int) != 1)||((n.Ints.length:Int) != 1))=true:=by
   rcases g with q | q
   ·have:((args.length:Int) != 1)=true:=by simp; omega
    rw [this]; rfl
   ·have:((n.Ints.length:Int) != 1)=true:=by simp; omega
    rw [this]; simp
  rw [e,if_pos (fun z=>by cases z),if_pos (fun z=>by cases z)]
  simp [bT]
 refine iE B (kd:=⟨4,false,0,0,[]⟩) (u:=fF) (ui:=1) (uj:=1) (by rw [h]; rfl) rfl rfl kS kT kU kV (hK (by omega) (by omega) (by rw [h]; rfl) (by rw [h]; rfl) (by rw [h]; rfl) (by rw [if_neg (by omega)]) ⟨by omega,by omega⟩) ⟨by omega,by omega,by omega⟩ (fun s=>by cases s) ?_ ?_ ?_
 ·intro args g
  rw [Ca]; exact b args (.inl g)
 ·intro t _ T _
  rw [Ca]; exact ⟨_,b _ (.inr (by omega))⟩
 ·intro m t F
  obtain ⟨f1,G,I,J,L,M,O⟩:=m
  have D:n.Ints.length=1:=by omega
  have i:Z2 n [t]=(Zd t (ix n.Ints 0)).bind fun r=>some r:=by
   unfold Z2
   simp only [Z2_J1,Z2_J2,h]
   simp only [Int.reduceBEq,Bool.false_eq_true,if_false,if_true,beq_self_eq_true]
   rw [if_pos (by simp),if_pos (by omega)]
   rfl
  have E:Z23 ⟨⟩ n [t.Dims]=some (if 0≤ix n.Ints 0∧ix n.Ints 0<(t.Dims.length:Int) then (t.Dims,true) else ([],false)):=by
   unfold Z23
   have e:((([t.Dims].length:Int) != 1)||((n.Ints.length:Int) != 1))=false:=by simp [D]
   rw [e,if_pos (fun _=>by simp),if_pos (fun _=>by omega)]
   simp only [bT,Bool.not_false,cond_true,Zn,Option.bind_some,Bool.false_or]
   have l:ix [t.Dims] (0:Int)=t.Dims:=rfl
   rw [l]
   by_cases c:0≤ix n.Ints 0∧ix n.Ints 0<(t.Dims.length:Int)
   ·rw [if_pos c,if_neg (by simp; omega)]; simp
   ·rw [if_neg c,if_pos (by simp; omega)]
  rw [Ca,E,i]
  obtain ⟨a1,j⟩:=AN (a:=ix n.Ints 0) F
  by_cases c:0≤ix n.Ints 0∧ix n.Ints 0<(t.Dims.length:Int)
  ·obtain ⟨d,d1,d2⟩:=a1 c
   exact .inl ⟨⟨t.Dims,d⟩,by rw [if_pos c],by rw [d1]; rfl,d2⟩
  ·exact .inr ⟨[],by rw [if_neg c],by rw [j c]; rfl⟩
theorem oC {n:Node}{s:aP}{ds:List Int}{v:View}(h:Z1h n ds=some v)(e:VG v.Dims v.Strides v.Offset v.Base):Z1y ⟨s⟩ n [ds]=some (v.Dims,true):=by
 obtain ⟨ps,a⟩:=vC e
 unfold Z1y
 rw [if_neg (by simp),if_pos (by simp)]
 have b:ix [ds] (0:Int)=ds:=rfl
 unfold Z30
 rw [b,h]
 simp only [Option.bind_some,a]
theorem lY {n:Node}{s:aP}{ds:List Int}(h:Z1h n ds=some eD):Z1y ⟨s⟩ n [ds]=some ([],false):=by
 unfold Z1y
 rw [if_neg (by simp),if_pos (by simp)]
 have a:ix [ds] (0:Int)=ds:=rfl
 unfold Z30
 rw [a,h]
 simp only [Option.bind_some,Z2p]
 rw [show Zk eD=some false from vx]
 rfl
theorem nj {n:Node}{s:aP}{args:List (List Int)}(h:args.length≠1):Z1y ⟨s⟩ n args=some ([],false):=by
 unfold Z1y
 rw [if_pos (by simp; omega)]
theorem rY {n:Node}{out:List Tensor}(g:Caps n out)(h:n.Op=12):pB n out (Zi n (out.map Tensor.Dims)):=by
 refine iE g (kd:=⟨6,false,0,0,hW⟩) (u:=hW) (ui:=0) (uj:=0) (by rw [h]; rfl) rfl rfl qf qg qh qi (hK (by omega) (by omega) (by rw [h]; rfl) (by rw [h]; rfl) (by rw [h]; rfl) (by rw [if_neg (by omega)]) ⟨by omega,by omega⟩) ⟨by omega,by omega,by omega⟩ (fun _=>⟨rfl,rfl⟩) ?_ ?_ ?_
 ·intro args q; rw [wQ]; exact nj q
 ·intro _ _ _ s; cases s
 ·intro _ t b
  have a:Z2 n [t]=(Zv t.Dims).bind fun i=>(Z05 i n.Dims).bind fun j=>(Z02 t j).bind fun l=>some l:=by
   unfold Z2
   simp only [Z2_J1,Z2_J2,h]
   simp only [Int.reduceBEq,Bool.false_eq_true,if_false,if_true,beq_self_eq_true]
   rw [if_pos (by simp)]
   rfl
  rw [kw b.d] at a
  simp only [Option.bind_some] at a
  rw [tN b.d g.d] at a
  simp only [Option.bind_some] at a
  have e:Z1h n t.Dims=(Z2n (cC t.Dims) n.Dims).bind fun r=>some r:=by
   unfold Z1h
   rw [li b.d]
   simp only [Option.bind_some]
   rw [if_pos (by simp [h])]
  rw [tO b.d g.d] at e
  simp only [Option.bind_some] at e
  rw [wQ]
  by_cases c:eK n.Dims∧t.Dims.length≤n.Dims.length∧mr t.Dims (n.Dims.drop (n.Dims.length - t.Dims.length))=true
  ·rw [if_pos c] at a e
   have m:VG n.Dims (jZ t.Dims n.Dims) 0 (pr t.Dims):=nU b.d c.1 c.2.1
   obtain ⟨d,d1,d2⟩:=oy (v:=⟨n.Dims,jZ t.Dims n.Dims,0,pr t.Dims⟩) b m rfl
   rw [d1] at a
   exact .inl ⟨⟨n.Dims,d⟩,oC e m,a,d2⟩
  ·rw [if_neg c] at a e
   rw [mH b] at a
   exact .inr ⟨[],lY e,a⟩
theorem qk {n:Node}{out:List Tensor}(e:Caps n out)(h:n.Op=13):pB n out (Zi n (out.map Tensor.Dims)):=by
 refine iE e (kd:=⟨7,false,0,0,hW⟩) (u:=hW) (ui:=0) (uj:=0) (by rw [h]; rfl) rfl rfl qf qg qh qi (hK (by omega) (by omega) (by rw [h]; rfl) (by rw [h]; rfl) (by rw [h]; rfl) (by rw [if_neg (by omega)]) ⟨by omega,by omega⟩) ⟨by omega,by omega,by omega⟩ (fun _=>⟨rfl,rfl⟩) ?_ ?_ ?_
 ·intro args s
  rw [CD]; unfold Z2b
  rw [if_pos (by simp; omega)]
 ·intro _ _ _ m; cases m
 ·intro _ t b
  have a:Z2 n [t]=(Zv t.Dims).bind fun i=>(Z0d i n.Dims).bind fun j=>(Z02 t j).bind fun l=>some l:=by
   unfold Z2
   simp only [Z2_J1,Z2_J2,h]
   simp only [Int.reduceBEq,Bool.false_eq_true,if_false,if_true,beq_self_eq_true]
   rw [if_pos (by simp)]
   rfl
  rw [kw b.d] at a
  simp only [Option.bind_some] at a
  rw [rV b.d e.d] at a
  simp only [Option.bind_some] at a
  obtain ⟨ps,g⟩:=nf (n:=n) b.d e.d
  have q:Z2b ⟨hW⟩ n [t.Dims]=(Z17 n t.Dims).bind fun r=>some (r.1,r.2.2):=by
   unfold Z2b
   rw [if_neg (by simp),if_pos (by simp)]
   rfl
  rw [CD,q,g]
  by_cases c:eK n.Dims∧pr n.Dims=pr t.Dims
  ·rw [if_pos c] at a ⊢
   obtain ⟨d,d1,d2⟩:=oy (v:=cC n.Dims) b (jd c.1) c.2
   rw [d1] at a
   exact .inl ⟨⟨n.Dims,d⟩,rfl,a,d2⟩
  ·rw [if_neg c] at a ⊢
   rw [mH b] at a
   exact .inr ⟨[],rfl,a⟩
theorem u5 {n:Node}{out:List Tensor}(E:Caps n out)(h:n.Op=14):pB n out (Zi n (out.map Tensor.Dims)):=by
 refine iE E (kd:=⟨6,false,0,0,fF⟩) (u:=fF) (ui:=4) (uj:=4) (by rw [h]; rfl) rfl rfl kS kT kU kV (hK (by omega) (by omega) (by rw [h]; rfl) (by rw [h]; rfl) (by rw [h]; rfl) (by rw [if_neg (by omega)]) ⟨by omega,by omega⟩) ⟨by omega,by omega,by omega⟩ (fun D=>by cases D) ?_ ?_ ?_
 ·intro args B; rw [wQ]; exact nj B
 ·intro t b T _
  rw [wQ]
  refine ⟨_,lY ?_⟩
  unfold Z1h
  rw [li b.d]
  simp only [Option.bind_some,h]
  have e:((n.Ints.length:Int)==4)=false:=by simp; omega
  rw [if_neg (by simp),e]
  simp [eD]
 ·intro s t b
  obtain ⟨f1,G,I,J,L,M,O⟩:=s
  have F:n.Ints.length=4:=by omega
  have a:Z2 n [t]=if ix n.Ints 3<1 then some ⟨[],[]⟩ else (Zv t.Dims).bind fun i=>(Z1f i (ix n.Ints 0) (ix n.Ints 1) (ix n.Ints 2) (ix n.Ints 3)).bind fun j=>(Z02 t j).bind fun l=>some l:=by
   unfold Z2
   simp only [Z2_J1,Z2_J2,h]
   simp only [Int.reduceBEq,Bool.false_eq_true,if_false,if_true,beq_self_eq_true]
   rw [if_pos (by omega)]
   by_cases c:ix n.Ints 3<1
   ·rw [if_pos (by simpa using c),if_pos c]
   ·rw [if_neg (by simpa using c),if_neg c,if_pos (by simp)]
    show (Zv t.Dims).bind _=_
    rw [kw b.d]
    simp only [Option.bind_some]
    rw [if_pos (by omega),if_pos (by omega),if_pos (by omega)]
    rfl
  have g:Z1h n t.Dims=if 1≤ix n.Ints 3 then (Z2m (cC t.Dims) (ix n.Ints 0) (ix n.Ints 1) (ix n.Ints 2) (ix n.Ints 3)).bind fun r=>some r else some eD:=by
   unfold Z1h
   rw [li b.d]
   simp only [Option.bind_some,h,F]
   rw [if_neg (by simp),if_pos (by simp)]
   by_cases c:1≤ix n.Ints 3
   ·rw [if_pos (by simp; omega),if_pos (by simp),if_pos (by simp),if_pos (by simp),if_pos (by simp),if_pos c]
   ·rw [if_neg (by simp; omega),if_neg (by simp),if_neg c]; rfl
  rw [wQ]
  by_cases c:1≤ix n.Ints 3
  ·rw [if_neg (by omega),kw b.d] at a
   simp only [Option.bind_some] at a
   rw [vE b.d c] at a
   rw [if_pos c,vF b.d c] at g
   simp only [Option.bind_some] at a g
   by_cases q:ms t.Dims (ix n.Ints 0) (ix n.Ints 1) (ix n.Ints 2) (ix n.Ints 3)
   ·rw [if_pos q] at a g
    have m:=oq b.d q
    obtain ⟨d,d1,d2⟩:=oy b m rfl
    rw [d1] at a
    exact .inl ⟨⟨_,d⟩,oC g m,a,d2⟩
   ·rw [if_neg q] at a g
    rw [mH b] at a
    exact .inr ⟨[],lY g,a⟩
  ·rw [if_pos (by omega)] at a
   rw [if_neg c] at g
   exact .inr ⟨[],lY g,a⟩
theorem rZ {n:Node}{out:List Tensor}(E:Caps n out)(h:n.Op=18):pB n out (Zi n (out.map Tensor.Dims)):=by
 refine iE E (kd:=⟨6,false,0,0,fF⟩) (u:=fF) (ui:=3) (uj:=3) (by rw [h]; rfl) rfl rfl kS kT kU kV (hK (by omega) (by omega) (by rw [h]; rfl) (by rw [h]; rfl) (by rw [h]; rfl) (by rw [if_neg (by omega)]) ⟨by omega,by omega⟩) ⟨by omega,by omega,by omega⟩ (fun D=>by cases D) ?_ ?_ ?_
 ·intro args B; rw [wQ]; exact nj B
 ·intro t b T _
  rw [wQ]
  refine ⟨_,lY ?_⟩
  unfold Z1h
  rw [li b.d]
  simp only [Option.bind_some,h]
  have e:((n.Ints.length:Int)==3)=false:=by simp; omega
  rw [if_neg (by simp),e]
  simp [eD]
 ·intro s t b
  obtain ⟨f1,G,I,J,L,M,O⟩:=s
  have F:n.Ints.length=3:=by omega
  have a:Z2 n [t]=(Zv t.Dims).bind fun i=>(Z0f i (ix n.Ints 0) (ix n.Ints 1) (ix n.Ints 2)).bind fun j=>(Z02 t j).bind fun l=>some l:=by
   unfold Z2
   simp only [Z2_J1,Z2_J2,h]
   simp only [Int.reduceBEq,Bool.false_eq_true,if_false,if_true,beq_self_eq_true]
   rw [if_pos (by simp)]
   show (Zv t.Dims).bind _=_
   rw [kw b.d]
   simp only [Option.bind_some]
   rw [if_pos (by omega),if_pos (by omega),if_pos (by omega)]
   rfl
  have g:Z1h n t.Dims=(Z2o (cC t.Dims) (ix n.Ints 0) (ix n.Ints 1) (ix n.Ints 2)).bind fun r=>some r:=by
   unfold Z1h
   rw [li b.d]
   simp only [Option.bind_some,h,F]
   rw [if_neg (by simp),if_pos (fun z=>by simp at z),if_neg (by simp),if_pos (by simp),if_pos (by simp),if_pos (by simp),if_pos (by simp)]
  rw [wQ]
  rw [kw b.d] at a
  simp only [Option.bind_some] at a
  rw [rS b.d] at a
  rw [rT b.d] at g
  simp only [Option.bind_some] at a g
  by_cases q:mt t.Dims (ix n.Ints 0) (ix n.Ints 1) (ix n.Ints 2)∧eK (gI t.Dims (ix n.Ints 0) (ix n.Ints 1) (ix n.Ints 2)).Dims
  ·rw [if_pos q] at a g
   have m:=qd b.d q.1 q.2
   obtain ⟨d,d1,d2⟩:=oy b m rfl
   rw [d1] at a
   exact .inl ⟨⟨_,d⟩,oC g m,a,d2⟩
  ·rw [if_neg q] at a g
   rw [mH b] at a
   exact .inr ⟨[],lY g,a⟩
theorem u6 {s i j}{n:Node}{args:List (List Int)}(h:args.length≠1):Z1u s i j n args=some ([],false):=by
 unfold Z1u
 rw [if_pos (by simp; omega)]
theorem yi {s i j}{n:Node}{ds:List Int}(h:¬ (i≤(n.Ints.length:Int)∧(n.Ints.length:Int)≤j)):Z1u s i j n [ds]=some ([],false):=by
 unfold Z1u
 rw [if_neg (by simp),if_pos (by simp)]
 unfold Z2w
 rw [if_pos (by simp; omega)]
 rfl
theorem vN {s i j}{n:Node}{ds:List Int}(h:i≤(n.Ints.length:Int)∧(n.Ints.length:Int)≤j):Z1u s i j n [ds]=(Z25 n.Ints ds).bind fun r=>some (r.1,r.2.2):=by
 unfold Z1u
 rw [if_neg (by simp),if_pos (by simp)]
 unfold Z2w
 rw [if_neg (by simp; omega)]
 have a:ix [ds] (0:Int)=ds:=rfl
 rw [a]
 cases Z25 n.Ints ds<;>rfl
theorem u7 {s i j}{n:Node}{args:List (List Int)}(h:args.length≠1):Z1v s i j n args=some ([],false):=by
 unfold Z1v
 rw [if_pos (by simp; omega)]
theorem yj {s i j}{n:Node}{ds:List Int}(h:¬ (i≤(n.Ints.length:Int)∧(n.Ints.length:Int)≤j)):Z1v s i j n [ds]=some ([],false):=by
 unfold Z1v
 rw [if_neg (by simp),if_pos (by simp)]
 unfold Z2x
 rw [if_pos (by simp; omega)]
 rfl
theorem vO {s i j}{n:Node}{ds:List Int}(h:i≤(n.Ints.length:Int)∧(n.Ints.length:Int)≤j):Z1v s i j n [ds]=(Z26 n.Ints ds).bind fun r=>some (r.1,r.2.2):=by
 unfold Z1v
 rw [if_neg (by simp),if_pos (by simp)]
 unfold Z2x
 rw [if_neg (by simp; omega)]
 have a:ix [ds] (0:Int)=ds:=rfl
 rw [a]
 cases Z26 n.Ints ds<;>rfl
theorem u9 {s i j}{n:Node}{args:List (List Int)}(h:args.length≠1):Z1w s i j n args=some ([],false):=by
 unfold Z1w
 rw [if_pos (by simp; omega)]
theorem yk {s i j}{n:Node}{ds:List Int}(h:¬ (i≤(n.Ints.length:Int)∧(n.Ints.length:Int)≤j)):Z1w s i j n [ds]=some ([],false):=by
 unfold Z1w
 rw [if_neg (by simp),if_pos (by simp)]
 unfold Z2y
 rw [if_pos (by simp; omega)]
 rfl
theorem vQ {s i j}{n:Node}{ds:List Int}(h:i≤(n.Ints.length:Int)∧(n.Ints.length:Int)≤j):Z1w s i j n [ds]=(Z27 n.Ints ds).bind fun r=>some (r.1,r.2.2):=by
 unfold Z1w
 rw [if_neg (by simp),if_pos (by simp)]
 unfold Z2y
 rw [if_neg (by simp; omega)]
 have a:ix [ds] (0:Int)=ds:=rfl
 rw [a]
 cases Z27 n.Ints ds<;>rfl
theorem ua {s i j}{n:Node}{args:List (List Int)}(h:args.length≠1):Z1x s i j n args=some ([],false):=by
 unfold Z1x
 rw [if_pos (by simp; omega)]
theorem ym {s i j}{n:Node}{ds:List Int}(h:¬ (i≤(n.Ints.length:Int)∧(n.Ints.length:Int)≤j)):Z1x s i j n [ds]=some ([],false):=by
 unfold Z1x
 rw [if_neg (by simp),if_pos (by simp)]
 unfold Z2z
 rw [if_pos (by simp; omega)]
 rfl
theorem vR {s i j}{n:Node}{ds:List Int}(h:i≤(n.Ints.length:Int)∧(n.Ints.length:Int)≤j):Z1x s i j n [ds]=(Z28 n.Ints ds).bind fun r=>some (r.1,r.2.2):=by
 unfold Z1x
 rw [if_neg (by simp),if_pos (by simp)]
 unfold Z2z
 rw [if_neg (by simp; omega)]
 have a:ix [ds] (0:Int)=ds:=rfl
 rw [a]
 cases Z28 n.Ints ds<;>rfl
theorem yn {n:Node}{out:List Tensor}(G:Caps n out)(h:n.Op=15):pB n out (Zi n (out.map Tensor.Dims)):=by
 refine iE G (kd:=⟨8,false,4,4,fF⟩) (u:=fF) (ui:=4) (uj:=4) (by rw [h]; rfl) rfl rfl kS kT kU kV (hK (by omega) (by omega) (by rw [h]; rfl) (by rw [h]; rfl) (by rw [h]; rfl) (by simp [h]) ⟨by omega,by omega⟩) ⟨by omega,by omega,by omega⟩ (fun F=>by cases F) ?_ ?_ ?_
 ·intro args E; rw [Cb]; exact u6 E
 ·intro t i J _; rw [Cb]; exact ⟨_,yi J⟩
 ·intro D t i
  obtain ⟨f1,L,M,O,T,s,B⟩:=D
  have e:Z2 n [t]=(Z11 t (ix n.Ints 0) (ix n.Ints 1) (ix n.Ints 2) (ix n.Ints 3)).bind fun r=>some r:=by
   unfold Z2
   simp only [Z2_J1,Z2_J2,h]
   simp only [Int.reduceBEq,Bool.false_eq_true,if_false,if_true,beq_self_eq_true]
   rw [if_pos (by simp),if_pos (by omega),if_pos (by omega),if_pos (by omega),if_pos (by omega)]
   rfl
  have I:Z25 n.Ints t.Dims=(Zy t.Dims (ix n.Ints 0) (ix n.Ints 1) (ix n.Ints 2) (ix n.Ints 3)).bind fun r=>some (r.1,r.2.1,r.2.2):=by
   unfold Z25
   rw [if_pos (by omega),if_pos (by omega),if_pos (by omega),if_pos (by omega)]
  rw [Cb,vN ⟨s,B⟩,I,e]
  obtain ⟨ds,ps,l,m⟩:Sh (Zy t.Dims (ix n.Ints 0) (ix n.Ints 1) (ix n.Ints 2) (ix n.Ints 3)) (nh t.Dims (ix n.Ints 0) (ix n.Ints 1) (ix n.Ints 2) (ix n.Ints 3)) (t.Dims.set (ix n.Ints 0).toNat (kb t.Dims (ix n.Ints 0) (ix n.Ints 1) (ix n.Ints 2) (ix n.Ints 3))):=AO i.d
  obtain ⟨a1,j⟩:=AM (a:=ix n.Ints 0) (b:=ix n.Ints 1) (f:=ix n.Ints 2) (g:=ix n.Ints 3) i
  rw [l]
  by_cases c:nh t.Dims (ix n.Ints 0) (ix n.Ints 1) (ix n.Ints 2) (ix n.Ints 3)
  ·obtain ⟨d,d1,d2⟩:=a1 c
   have q:=m c
   rw [d1,decide_eq_true c]
   subst q
   exact .inl ⟨⟨_,d⟩,rfl,rfl,d2⟩
  ·rw [j c,decide_eq_false c]
   exact .inr ⟨ds,rfl,rfl⟩
theorem r' {n:Node}{out:List Tensor}(b:Caps n out)(h:n.Op=16):pB n out (Zi n (out.map Tensor.Dims)):=by
 refine iE b (kd:=⟨9,false,1,4097,fF⟩) (u:=fF) (ui:=1) (uj:=4097) (by rw [h]; rfl) rfl rfl kS kT kU kV (hK (by omega) (by omega) (by rw [h]; rfl) (by rw [h]; rfl) (by rw [h]; rfl) (by simp [h]) ⟨by omega,by omega⟩) ⟨by omega,by omega,by omega⟩ (fun F=>by cases F) ?_ ?_ ?_
 ·intro args E; rw [Cc]; exact u7 E
 ·intro t g I _; rw [Cc]; exact ⟨_,yj I⟩
 ·intro D t g
  obtain ⟨f1,J,L,M,O,s,B⟩:=D
  have e:Z2 n [t]=(Z10 t (ix n.Ints 0) (n.Ints.drop 1)).bind fun r=>some r:=by
   unfold Z2
   simp only [Z2_J1,Z2_J2,h]
   simp only [Int.reduceBEq,Bool.false_eq_true,if_false,if_true,beq_self_eq_true]
   rw [if_pos (by simp),if_pos (by omega),if_pos (by omega),iD]
   rfl
  have G:Z26 n.Ints t.Dims=(Z0g t.Dims (ix n.Ints 0) (n.Ints.drop 1)).bind fun r=>some (r.1,r.2.1,r.2.2):=by
   unfold Z26
   rw [if_pos (by omega),if_pos (by omega),iD]
   rfl
  rw [Cc,vO ⟨s,B⟩,G,e]
  obtain ⟨ds,ps,l,m⟩:Sh (Z0g t.Dims (ix n.Ints 0) (n.Ints.drop 1)) (ng t.Dims (ix n.Ints 0) (n.Ints.drop 1)) (t.Dims.set (ix n.Ints 0).toNat ((n.Ints.drop 1).length:Int)):=tV g.d (by have:=b.i; simp; omega)
  obtain ⟨a1,j⟩:=tU (a:=ix n.Ints 0) (xs:=n.Ints.drop 1) g (by have:=b.i; simp; omega)
  rw [l]
  by_cases c:ng t.Dims (ix n.Ints 0) (n.Ints.drop 1)
  ·obtain ⟨d,d1,d2⟩:=a1 c
   have q:=m c
   rw [d1,decide_eq_true c]
   subst q
   exact .inl ⟨⟨_,d⟩,rfl,rfl,d2⟩
  ·rw [j c,decide_eq_false c]
   exact .inr ⟨ds,rfl,rfl⟩
theorem ql {n:Node}{out:List Tensor}(b:Caps n out)(h:n.Op=17):pB n out (Zi n (out.map Tensor.Dims)):=by
 refine iE b (kd:=⟨10,false,2,4098,fF⟩) (u:=fF) (ui:=2) (uj:=4098) (by rw [h]; rfl) rfl rfl kS kT kU kV (hK (by omega) (by omega) (by rw [h]; rfl) (by rw [h]; rfl) (by rw [h]; rfl) (by simp [h]) ⟨by omega,by omega⟩) ⟨by omega,by omega,by omega⟩ (fun F=>by cases F) ?_ ?_ ?_
 ·intro args E; rw [ye]; exact u9 E
 ·intro t g I _; rw [ye]; exact ⟨_,yk I⟩
 ·intro D t g
  obtain ⟨f1,J,L,M,O,s,B⟩:=D
  have e:Z2 n [t]=(Z12 t (ix n.Ints 0) (n.Ints.drop 2) (ix n.Ints 1)).bind fun r=>some r:=by
   unfold Z2
   simp only [Z2_J1,Z2_J2,h]
   simp only [Int.reduceBEq,Bool.false_eq_true,if_false,if_true,beq_self_eq_true]
   rw [if_pos (by simp),if_pos (by omega),if_pos (by omega),if_pos (by omega),iD]
   rfl
  have G:Z27 n.Ints t.Dims=(Z0h t.Dims (ix n.Ints 0) (n.Ints.drop 2) (ix n.Ints 1)).bind fun r=>some (r.1,r.2.1,r.2.2):=by
   unfold Z27
   rw [if_pos (by omega),if_pos (by omega),if_pos (by omega),iD]
   rfl
  rw [ye,vQ ⟨s,B⟩,G,e]
  obtain ⟨ds,ps,l,m⟩:Sh (Z0h t.Dims (ix n.Ints 0) (n.Ints.drop 2) (ix n.Ints 1)) (mu t.Dims (ix n.Ints 0) (n.Ints.drop 2) (ix n.Ints 1)) (t.Dims.set (ix n.Ints 0).toNat (ix n.Ints 1)):=rX g.d (by have:=b.i; simp; omega)
  obtain ⟨a1,j⟩:=rW (a:=ix n.Ints 0) (n:=ix n.Ints 1) (xs:=n.Ints.drop 2) g (by have:=b.i; simp; omega)
  rw [l]
  by_cases c:mu t.Dims (ix n.Ints 0) (n.Ints.drop 2) (ix n.Ints 1)
  ·obtain ⟨d,d1,d2⟩:=a1 c
   have q:=m c
   rw [d1,decide_eq_true c]
   subst q
   exact .inl ⟨⟨_,d⟩,rfl,rfl,d2⟩
  ·rw [j c,decide_eq_false c]
   exact .inr ⟨ds,rfl,rfl⟩
theorem vU {n:Node}{out:List Tensor}(E:Caps n out)(h:n.Op=19):pB n out (Zi n (out.map Tensor.Dims)):=by
 refine iE E (kd:=⟨11,false,3,3,fF⟩) (u:=fF) (ui:=3) (uj:=3) (by rw [h]; rfl) rfl rfl kS kT kU kV (hK (by omega) (by omega) (by rw [h]; rfl) (by rw [h]; rfl) (by rw [h]; rfl) (by simp [h]) ⟨by omega,by omega⟩) ⟨by omega,by omega,by omega⟩ (fun D=>by cases D) ?_ ?_ ?_
 ·intro args B; rw [yf]; exact ua B
 ·intro t e G _; rw [yf]; exact ⟨_,ym G⟩
 ·intro s t e
  obtain ⟨f1,I,J,L,M,m,q⟩:=s
  have b:Z2 n [t]=(Z0z t (ix n.Ints 0) (ix n.Ints 1) (ix n.Ints 2)).bind fun r=>some r:=by
   unfold Z2
   simp only [Z2_J1,Z2_J2,h]
   simp only [Int.reduceBEq,Bool.false_eq_true,if_false,if_true,beq_self_eq_true]
   rw [if_pos (by simp),if_pos (by omega),if_pos (by omega),if_pos (by omega)]
   rfl
  have F:Z28 n.Ints t.Dims=(Z5 t.Dims (ix n.Ints 0) (ix n.Ints 1) (ix n.Ints 2)).bind fun r=>some (r.1,r.2.1,r.2.2):=by
   unfold Z28
   rw [if_pos (by omega),if_pos (by omega),if_pos (by omega)]
  rw [yf,vR ⟨m,q⟩,F,b]
  obtain ⟨ds,ps,i,j⟩:Sh (Z5 t.Dims (ix n.Ints 0) (ix n.Ints 1) (ix n.Ints 2)) (mw t.Dims (ix n.Ints 0) (ix n.Ints 1) (ix n.Ints 2)) ((t.Dims.set (ix n.Ints 0).toNat (ix n.Ints 2)).take (t.Dims.length - 1)):=xY e.d
  obtain ⟨a1,g⟩:=xW (a:=ix n.Ints 0) (st:=ix n.Ints 1) (n:=ix n.Ints 2) e
  rw [i]
  by_cases c:mw t.Dims (ix n.Ints 0) (ix n.Ints 1) (ix n.Ints 2)
  ·obtain ⟨d,d1,d2⟩:=a1 c
   have l:=j c
   rw [d1,decide_eq_true c]
   subst l
   exact .inl ⟨⟨_,d⟩,rfl,rfl,d2⟩
  ·rw [g c,decide_eq_false c]
   exact .inr ⟨ds,rfl,rfl⟩
def LT (s:aP):Prop:=s.length≤6∧∀ c∈s,97≤c.toNat∧c.toNat≤122
instance (s:aP):Decidable (LT s):=by unfold LT; infer_instance
theorem nX {s:aP}(b:s.length<cJ):Z14 s=some (decide (LT s)):=by
 unfold Z14
 have:=fA s (fun i:Int=>Z14_L1 s i) (fun i=>i) (fun c=>decide (97≤c.toNat∧c.toNat≤122)) (.inl false) (.inr ())
  (fun k g=>by
   have a:bt s (k:Int)=((ix s (k:Int)).toNat:Int):=rfl
   simp only [Z14_L1]
   rw [if_pos (by simp; omega),if_pos (by omega),cA (by omega)]
   by_cases q:97≤(ix s (k:Int)).toNat∧(ix s (k:Int)).toNat≤122
   ·rw [if_neg (by simp only [Bool.or_eq_true,decide_eq_true_eq,a]; omega),decide_eq_true q,if_pos rfl]
   ·rw [if_pos (by simp only [Bool.or_eq_true,decide_eq_true_eq,a]; omega),decide_eq_false q,if_neg (by simp)])
  (by simp only [Z14_L1]; rw [if_neg (by simp)])
 rw [this]
 have e:(s.all fun c=>decide (97≤c.toNat∧c.toNat≤122))=decide (∀ c∈s,97≤c.toNat∧c.toNat≤122):=by
  rw [Bool.eq_iff_iff]
  simp only [List.all_eq_true,decide_eq_true_eq]
 rw [e]
 by_cases c:∀ c∈s,97≤c.toNat∧c.toNat≤122
 ·rw [decide_eq_true c,if_pos rfl]
  show some (decide ((s.length:Int)≤6))=_
  congr 1
  rw [Bool.eq_iff_iff]
  simp only [decide_eq_true_eq]
  exact ⟨fun h=>⟨by omega,c⟩,fun h=>by have:=h.1; omega⟩
 ·rw [decide_eq_false c,decide_eq_false (fun z:LT s=>c z.2)]; rfl
theorem lr {a b:UInt8}:((a.toNat:Int)==(b.toNat:Int))=decide (a=b):=by
 rw [Bool.eq_iff_iff]
 simp only [beq_iff_eq,decide_eq_true_eq]
 exact ⟨fun h=>UInt8.toNat_inj.1 (by omega),fun h=>by rw [h]⟩
theorem wR {s:aP}(h:s.length<cJ)(b:UInt8):Z13 s (b.toNat:Int)=some (decide (b∈s)):=by
 unfold Z13
 have:=fA s (fun i:Int=>Z13_L1 s (b.toNat:Int) i) (fun i=>i) (fun c=>!(decide (c=b))) (.inl true) (.inr ())
  (fun k j=>by
   have a:(bt s (k:Int)==(b.toNat:Int))=decide (ix s (k:Int)=b):=lr
   simp only [Z13_L1]
   rw [if_pos (by simp; omega),if_pos (by omega),cA (by omega),a]
   cases decide (ix s (k:Int)=b)<;>rfl)
  (by simp only [Z13_L1]; rw [if_neg (by simp)])
 rw [this]
 by_cases c:b∈s
 ·have e:(s.all fun c=>!(decide (c=b)))=false:=by
   rw [List.all_eq_false]; exact ⟨b,c,by simp⟩
  rw [e,decide_eq_true c]; rfl
 ·have e:(s.all fun c=>!(decide (c=b)))=true:=by
   rw [List.all_eq_true]; intro x g
   have:x≠b:=fun q=>c (q▸g)
   simp [this]
  rw [e,decide_eq_false c]; rfl
theorem s6 (c:UInt8):((c.toNat:Int)).toNat.toUInt8=c:=by
 rw [Int.toNat_natCast]
 exact UInt8.ofNat_toNat
theorem ub (s:aP)(c:UInt8):(Lib.indexByte s c<0)↔c ∉ s:=by
 induction s with
 | nil=>simp [Lib.indexByte]
 | cons b l ih =>
  unfold Lib.indexByte
  by_cases e:b=c
  ·subst e; simp
  ·have a:(b==c)=false:=by simpa using e
   have:=Lib.indexByte_ge l c
   rw [a]
   simp only [Bool.false_eq_true,if_false,List.mem_cons,not_or]
   rw [← ih]
   by_cases q:Lib.indexByte l c = -1
   ·rw [q]; simp; exact fun z=>e z.symm
   ·rw [if_neg (by simpa using q)]
    exact ⟨fun z=>by omega,fun z=>by omega⟩
theorem oD (s:aP)(c:UInt8):∃ r,Z1z s (c.toNat:Int)=some r∧(r<0↔c ∉ s):=by
 unfold Z1z dL
 rw [s6]
 exact ⟨_,rfl,ub s c⟩
def qm:aP→Option (aP×aP)
 | []=>none
 | [_]=>none
 | x::y::r=>if x=45∧y=62 then some ([],r) else (qm (y::r)).map fun p=>(x::p.1,p.2)
def ce:aP→Nat
 | []=>0
 | [_]=>0
 | x::y::r=>if x=45∧y=62 then 0 else ce (y::r)+1
theorem lu:∀ {s l o:aP},qm s=some (l,o)→ce s=l.length∧s=l++45::62::o
 | [],_,_,h=>by cases h
 | [_],_,_,h=>by cases h
 | x::y::r,l,o,h=>by
  unfold qm at h; unfold ce
  by_cases c:x=45∧y=62
  ·rw [if_pos c] at h ⊢
   obtain ⟨rfl,rfl⟩:=c
   cases h
   exact ⟨rfl,rfl⟩
  ·rw [if_neg c] at h ⊢
   obtain ⟨⟨e,o'⟩,h1,h2⟩:=Option.map_eq_some_iff.1 h
   cases h2
   obtain ⟨a,b⟩:=lu h1
   exact ⟨by rw [a]; rfl,by rw [b]; rfl⟩
theorem rx:∀ {s:aP},qm s=none→s.length≤ce s+1
 | [],h=>by simp
 | [_],h=>by simp
 | x::y::r,h=>by
  unfold qm at h; unfold ce
  by_cases c:x=45∧y=62
  ·rw [if_pos c] at h; cases h
  ·rw [if_neg c] at h ⊢
   have:=rx (s:=y::r) (by simpa using h)
   simp at this ⊢; omega
theorem ry:∀ {s:aP} {j:Nat},j<ce s→j+1<s.length∧(s.drop j).take 2≠[45,62]
 | [],_,h=>by simp [ce] at h
 | [_],_,h=>by simp [ce] at h
 | x::y::r,j,h=>by
  unfold ce at h
  by_cases c:x=45∧y=62
  ·rw [if_pos c] at h; omega
  ·rw [if_neg c] at h
   cases j with
   | zero=>exact ⟨by simp,by simpa using c⟩
   | succ j =>
    obtain ⟨a,b⟩:=ry (s:=y::r) (j:=j) (by omega)
    exact ⟨by simp at a ⊢; omega,by simpa using b⟩
theorem wS:∀ {s:aP},ce s+1<s.length→(s.drop (ce s)).take 2=[45,62]
 | [],h=>by simp at h
 | [_],h=>by simp [ce] at h
 | x::y::r,h=>by
  unfold ce at h ⊢
  by_cases c:x=45∧y=62
  ·rw [if_pos c]; obtain ⟨rfl,rfl⟩:=c; rfl
  ·rw [if_neg c] at h ⊢
   have:=wS (s:=y::r) (by simp at h ⊢; omega)
   simpa using this
theorem nY:∀ (s:aP),Lib.index s str0=match qm s with | some p=>(p.1.length:Int) | none => -1
 | []=>rfl
 | [x]=>by
  unfold Lib.index qm
  simp [str0,Lib.index]
 | x::y::r=>by
  unfold Lib.index qm
  by_cases c:x=45∧y=62
  ·obtain ⟨rfl,rfl⟩:=c
   rw [if_pos (by simp [str0]),if_pos ⟨rfl,rfl⟩]; rfl
  ·rw [if_neg (by simp [str0]; intro a b; exact c ⟨a.symm,b.symm⟩),if_neg c,nY (y::r)]
   cases qm (y::r) with
   | none=>rfl
   | some p =>
    simp only [Option.map_some]
    rw [if_neg (by simp)]
    simp
def pre (p:aP):List aP→List aP
 | []=>[p]
 | g::gs=>(p++g)::gs
def gJ:aP→List aP
 | []=>[[]]
 | x::r=>if x=44 then []::gJ r else pre [x] (gJ r)
theorem lv (x:UInt8)(r:aP):gJ (x::r)=if x=44 then []::gJ r else pre [x] (gJ r):=rfl
theorem yo (p:aP)(gs:List aP):pre p gs≠[]:=by cases gs<;>simp [pre]
theorem lZ (s:aP):gJ s≠[]:=by
 cases s with
 | nil=>simp [gJ]
 | cons x r=>unfold gJ; split; simp; exact yo _ _
theorem rz {gs:List aP}(h:gs≠[]):pre [] gs=gs:=by
 cases gs with
 | nil=>exact absurd rfl h
 | cons g gs=>rfl
theorem vV (p q:aP)(gs:List aP):pre p (pre q gs)=pre (p++q) gs:=by
 cases gs<;>simp [pre]
theorem vW (s:aP):(gJ s).length=s.count 44+1:=by
 induction s with
 | nil=>rfl
 | cons x r ih =>
  unfold gJ
  by_cases c:x=44
  ·subst c; simp [ih]
  ·rw [if_neg c,List.count_cons_of_ne (fun z=>c z)]
   cases h:gJ r with
   | nil=>exact absurd h (lZ r)
   | cons g gs=>rw [h] at ih; simpa [pre] using ih
theorem yp {s:aP}(h:s.count 44=0):gJ s=[s]:=by
 induction s with
 | nil=>rfl
 | cons x r ih =>
  have c:x≠44:=by intro q; subst q; simp at h
  rw [List.count_cons_of_ne (fun z=>c z)] at h
  unfold gJ
  rw [if_neg c,ih h]; rfl
theorem vX (s:aP)(c:UInt8)(a:c≠44):(∃ g∈gJ s,c∈g)↔c∈s:=by
 induction s with
 | nil=>simp [gJ]
 | cons x r ih =>
  unfold gJ
  by_cases q:x=44
  ·subst q
   rw [if_pos rfl]
   simp [a,ih]
  ·rw [if_neg q,List.mem_cons,← ih]
   cases h:gJ r with
   | nil=>exact absurd h (lZ r)
   | cons g gs=>simp [pre,or_assoc]
theorem wT:∀ {x:aP},x.count 44≠0→∃ g r,x=g++44::r∧Lib.index x str6=(g.length:Int)∧gJ x=g::gJ r∧x.count 44=r.count 44+1
 | [],h=>by simp at h
 | b::l,h=>by
  by_cases c:b=44
  ·subst c
   exact ⟨[],l,rfl,by unfold Lib.index; simp [str6],by rw [lv,if_pos rfl],by simp⟩
  ·rw [List.count_cons_of_ne (fun z=>c z)] at h
   obtain ⟨g,r,h1,h2,a,e⟩:=wT h
   refine ⟨b::g,r,by rw [h1]; rfl,?_,?_,?_⟩
   ·unfold Lib.index
    rw [if_neg (by simp [str6]; exact fun z=>c z.symm),h2,if_neg (by simp)]
    simp
   ·rw [lv,if_neg c,a]; rfl
   ·rw [List.count_cons_of_ne (fun z=>c z)]; exact e
theorem vY {p:aP}(I:p.length≤1048576):Z38 p str6=some (gJ p):=by
 have Y:p.count 44≤p.length:=List.count_le_length
 have m:(if (aK ((p.length:Int)+1))<((p.count 44+1:Nat):Int) then (aK ((p.length:Int)+1)) else ((p.count 44+1:Nat):Int))=((p.count 44+1:Nat):Int):=by
  rw [cA (by unfold cJ; omega),if_neg (by omega)]
 have hw:aK (((p.count 44+1:Nat):Int) - 1)=(p.count 44:Int):=by rw [bG (by omega) (by omega)]; omega
 unfold Z38 Z0n
 rw [if_neg (by decide),if_neg (by simp [str6]),if_pos (by decide)]
 have h:Z3i p str6=some (p.count 44:Int):=rfl
 rw [h]
 simp only [Option.bind_some]
 rw [cA (by unfold cJ; omega)]
 unfold Z0n_J2
 rw [m,if_pos (by omega),Int.toNat_natCast]
 obtain ⟨e,J,M⟩:=hO (f:=fun s:aP×List aP×Int=>Z0n_L1 p str6 0 ((p.count 44+1:Nat):Int) s.1 s.2.1 s.2.2)
  (fun j s=>s.2.2=(j:Int)∧s.2.1.length=p.count 44+1∧s.2.1.take j++gJ s.1=gJ p∧s.1.count 44+j=p.count 44∧s.1.length≤1048576) (p.count 44)
  (Post:=fun e=>e.2.2=(p.count 44:Int)∧e.2.1.length=p.count 44+1∧e.2.1.take (p.count 44)++[e.1]=gJ p)
  (fun j s Z B=>by
   obtain ⟨x,a,i⟩:=s
   obtain ⟨h1,h2,b,q,u⟩:=B
   simp only at h1 h2 b q u
   subst h1
   obtain ⟨g,r,g1,F,G,U⟩:=wT (x:=x) (by omega)
   have hx:x.length=g.length+1+r.length:=by rw [g1]; simp; omega
   have L:Z2l x str6=some (g.length:Int):=by
    unfold Z2l cZ
    rw [if_pos (by omega),F]; rfl
   have O:aK ((g.length:Int)+0)=(g.length:Int):=by rw [bG (by omega) (by omega)]; omega
   have T:aK ((g.length:Int)+((str6.length:Nat):Int))=((g.length+1:Nat):Int):=by
    show aK ((g.length:Int)+1)=_
    exact cA (by unfold cJ; omega)
   refine ⟨(r,a.set j g,((j+1:Nat):Int)),?_,rfl,by simpa using h2,?_,by show r.count 44+(j+1)=_; omega,by show r.length≤_; omega⟩
   ·simp only [Z0n_L1]
    rw [m,hw,if_pos (by simp; omega),L]
    simp only [Option.bind_some]
    rw [if_neg (by simp),O,if_pos (by omega),if_pos (by simp; omega)]
    have D:sub x 0 (g.length:Int)=g:=by rw [lm,g1]; simp
    have E:sub x ((g.length+1:Nat):Int) (x.length:Int)=r:=by rw [iD,Int.toNat_natCast,g1,List.drop_append]; simp
    rw [T,D,Int.toNat_natCast]
    simp only [nm,Option.bind_some]
    rw [if_pos (by omega),E,cA (by unfold cJ; omega)]
   ·rw [← b,G,List.take_set]
    have l:j<a.length:=by omega
    rw [List.take_succ_eq_append_getElem l,List.set_append_right _ _ (by simp; omega)]
    simp [Nat.min_eq_left (Nat.le_of_lt l)]
    )
  (fun s B=>by
   obtain ⟨x,a,i⟩:=s
   obtain ⟨h1,h2,b,q,u⟩:=B
   simp only at h1 h2 b q u
   subst h1
   rw [yp (by omega)] at b
   refine ⟨(x,a,(p.count 44:Int)),?_,rfl,h2,b⟩
   simp only [Z0n_L1]
   rw [m,hw,if_neg (by simp)])
  (s:=(p,List.replicate (p.count 44+1) [],0)) ⟨rfl,by simp,by simp,by simp,I⟩
 rw [J]
 obtain ⟨x,a,i⟩:=e
 obtain ⟨h1,h2,b⟩:=M
 simp only at h1 h2 b
 subst h1
 simp only [Option.bind_some,Z0n_J3]
 rw [m,if_pos (by simp; omega),cA (by unfold cJ; omega),if_pos (by simp; omega),Int.toNat_natCast]
 simp only [Option.bind_some]
 congr 1
 rw [lm,List.take_set,← b]
 have l:p.count 44<a.length:=by omega
 rw [List.take_succ_eq_append_getElem l,List.set_append_right _ _ (by simp; omega)]
 simp [Nat.min_eq_left (Nat.le_of_lt l)]
def OL (gs:List aP)(o:aP)(i:Nat):Prop:=(∃ g∈gs,ix o (i:Int)∈g)∧ix o (i:Int) ∉ o.take i
instance (gs:List aP)(o:aP)(i:Nat):Decidable (OL gs o i):=by unfold OL; infer_instance
def PO (gs:List aP)(o:aP):Prop:=gs.length≤6∧LT o∧(∀ g∈gs,LT g)∧∀ i∈List.range o.length,OL gs o i
instance (gs:List aP)(o:aP):Decidable (PO gs o):=by unfold PO; infer_instance
def parts (form:aP):List aP×aP×Bool:=match qm form with
 | none=>([],[],false)
 | some p=>if PO (gJ p.1) p.2 then (gJ p.1,p.2,true) else ([],[],false)
theorem Cd {form:aP}(i:form.length≤1048576):aU (fun s:Int=>Z1_L1 form s) 0=some (ce form:Int):=by
 have w:∀ j:Nat,j≤1048576→aK ((j:Int)+1)=((j+1:Nat):Int)∧aK ((j:Int)+2)=((j+2:Nat):Int):=by
  intro j e
  exact ⟨cA (by unfold cJ; omega),by rw [bG (by omega) (by omega)]; omega⟩
 have g:∀ j:Nat,sub form (j:Int) ((j+2:Nat):Int)=(form.drop j).take 2:=by
  intro j
  unfold sub
  rw [Int.toNat_natCast,Int.toNat_natCast,List.drop_take]
  congr 1; omega
 have h:ce form≤form.length:=by
  by_cases c:ce form=0
  ·omega
  ·have:=(ry (s:=form) (j:=ce form - 1) (by omega)).1; omega
 refine eR (f:=fun s:Int=>Z1_L1 form s) (fun j=>(j:Int)) (ce form) (fun j e=>?_) ?_ rfl
 ·obtain ⟨a,b⟩:=ry e
  simp only [Z1_L1]
  rw [(w j (by omega)).1,(w j (by omega)).2,g,if_pos (fun _=>by omega),if_pos]
  simp only [Bool.and_eq_true,decide_eq_true_eq,Bool.not_eq_true',beq_eq_false_iff_ne]
  exact ⟨by omega,b⟩
 ·simp only [Z1_L1]
  rw [(w _ (by omega)).1,(w _ (by omega)).2,g]
  by_cases c:ce form+1<form.length
  ·rw [if_pos (fun _=>by omega),if_neg]
   rw [wS c]; simp [str0]
  ·rw [if_pos (fun z=>by simp at z; omega),if_neg]
   simp only [Bool.and_eq_true,decide_eq_true_eq]
   omega
theorem uc {form l o:aP}(Y:form.length≤1048576)(h:qm form=some (l,o)):aU (fun s:List aP×Int×Int=>Z1_L2 form (l.length:Int) s.1 s.2.1 s.2.2) ([],0,0)=some (gJ l):=by
 obtain ⟨U,B⟩:=lu h
 have hl:form.length=l.length+2+o.length:=by rw [B]; simp; omega
 obtain ⟨r,T,O⟩:=hO (f:=fun s:List aP×Int×Int=>Z1_L2 form (l.length:Int) s.1 s.2.1 s.2.2)
  (fun j s=>s.2.2=(j:Int)∧s.1.length≤j∧((∃ F:Nat,F≤j∧s.2.1=(F:Int)∧j≤l.length∧s.1++pre ((l.take j).drop F) (gJ (l.drop j))=gJ l)∨(j=l.length+1∧s.1=gJ l))) (l.length+1)
  (Post:=fun r=>r=gJ l)
  (fun j s Z D=>by
   obtain ⟨gs,g,i⟩:=s
   obtain ⟨h1,h2,u⟩:=D
   simp only at h1 h2 u
   subst h1
   rcases u with ⟨F,f1,I,J,e⟩|⟨q,_⟩
   ·subst I
    have L:sub form (F:Int) (j:Int)=(l.take j).drop F:=by
     unfold sub
     rw [Int.toNat_natCast,Int.toNat_natCast,B,List.take_append_of_le_length J]
    simp only [Z1_L2]
    rw [if_pos (by simp; omega),if_pos (fun _=>by omega)]
    by_cases c:j=l.length
    ·rw [if_pos (by simp [c]),if_pos (by omega),L,if_pos (by simp; omega)]
     simp only [Z1_J3]
     refine ⟨_,by rw [cA (by unfold cJ; omega)],rfl,by simp; omega,.inr ⟨by omega,?_⟩⟩
     subst c
     rw [List.drop_length] at e
     simpa [gJ,pre] using e
    ·have m:j<l.length:=by omega
     have M:l.drop j=l[j]::l.drop (j+1):=List.drop_eq_getElem_cons m
     have E:(bt form (j:Int)==44)=decide (l[j]=44):=by
      have:ix form (j:Int)=l[j]:=by
       rw [bV (by omega)]
       simp only [B]
       rw [List.getElem_append_left m]
      unfold bt
      rw [this]
      have:=lr (a:=l[j]) (b:=44)
      simpa using this
     have G:((j:Int)==(l.length:Int))=false:=by simp; omega
     rw [E,G,Bool.false_or]
     rw [M,lv] at e
     by_cases q:l[j]=44
     ·rw [decide_eq_true q,if_pos rfl,if_pos (by omega),L,if_pos (by simp; omega)]
      simp only [Z1_J3]
      rw [cA (by unfold cJ; omega)]
      refine ⟨_,rfl,rfl,by simp; omega,.inl ⟨j+1,Nat.le_refl _,rfl,by omega,?_⟩⟩
      rw [if_pos q] at e
      have z:List.drop (j+1) (List.take (j+1) l)=[]:=List.drop_of_length_le (by simp; omega)
      rw [z,rz (lZ _),← e]
      simp [pre]
     ·rw [decide_eq_false q,if_neg (by simp)]
      simp only [Z1_J3]
      rw [cA (by unfold cJ; omega)]
      refine ⟨_,rfl,rfl,by show gs.length≤_; omega,.inl ⟨F,by omega,rfl,by omega,?_⟩⟩
      rw [if_neg q,vV] at e
      rw [← e,List.take_succ_eq_append_getElem m,List.drop_append_of_le_length (by simp; omega)]
   ·omega)
  (fun s D=>by
   obtain ⟨gs,g,i⟩:=s
   obtain ⟨h1,h2,u⟩:=D
   simp only at h1 h2 u
   subst h1
   rcases u with ⟨F,f1,I,J,e⟩|⟨_,q⟩
   ·omega
   ·refine ⟨gs,?_,q⟩
    simp only [Z1_L2]
    rw [if_neg (by simp; omega)])
  (s:=([],0,0)) ⟨rfl,by simp,.inl ⟨0,by omega,rfl,by omega,by simp [rz (lZ l)]⟩⟩
 rw [T,O]
theorem qn {s g:aP}(h:g∈gJ s):g.length≤s.length:=by
 induction s generalizing g with
 | nil=>simp [gJ] at h; simp [h]
 | cons x r ih =>
  rw [lv] at h
  by_cases c:x=44
  ·rw [if_pos c] at h
   rcases List.mem_cons.1 h with q | q
   ·simp [q]
   ·have:=ih q; simp; omega
  ·rw [if_neg c] at h
   cases e:gJ r with
   | nil=>exact absurd e (lZ r)
   | cons g' gs =>
    rw [e] at h ih
    simp only [pre,List.mem_cons] at h
    rcases h with q | q
    ·have:=ih (g:=g') (by simp); rw [q]; simp; omega
    ·have:=ih (g:=g) (by simp [q]); simp; omega
theorem AP {gs:List aP}{o:aP}{form:aP}{x i:Int}(m:gs.length<cJ)(l:∀ g∈gs,g.length<cJ)(r:sub form (aK (x+2)) (form.length:Int)=o)(q:0≤i∧i<(o.length:Int)) :
  aU (fun s:Bool×Int=>Z1_L5 form x gs i s.1 s.2) (false,0)=some (decide (∃ g∈gs,ix o i∈g)):=by
 have e:∀ b:Bool,decide (∃ g∈gs,ix o i∈g)=gs.any fun g=>decide (ix o i∈g):=by
  intro _
  rw [Bool.eq_iff_iff]; simp
 rw [e true]
 refine eR (f:=fun s:Bool×Int=>Z1_L5 form x gs i s.1 s.2) (fun j=>((gs.take j).any fun g=>decide (ix o i∈g),(j:Int))) gs.length (fun j a=>?_) ?_ rfl
 ·simp only [Z1_L5]
  rw [r,if_pos (by simp; omega),if_pos (fun _=>by omega),if_pos (fun _=>q),List.take_succ_eq_append_getElem a,List.any_append,cA (by omega),bV a]
  have h:bt o i=((ix o i).toNat:Int):=rfl
  rw [h,wR (l _ (List.getElem_mem a))]
  cases (gs.take j).any fun g=>decide (ix o i∈g) with
  | true=>simp [bT]
  | false=>simp [bT]
 ·simp only [Z1_L5]
  rw [if_neg (by simp),List.take_length]
theorem vZ {form:aP}(E:form.length≤1048576):Z1 form=some (parts form):=by
 unfold Z1
 rw [Cd E]
 simp only [Option.bind_some,Z1_J1]
 unfold parts
 have L:ce form≤form.length:=by
  by_cases c:ce form=0
  ·omega
  ·have:=(ry (s:=form) (j:=ce form - 1) (by omega)).1; omega
 rw [cA (by unfold cJ; omega)]
 cases h:qm form with
 | none =>
  have:=rx h
  rw [if_pos (by simp; omega)]
 | some p =>
  obtain ⟨l,o⟩:=p
  obtain ⟨I,D⟩:=lu h
  have M:form.length=l.length+2+o.length:=by rw [D]; simp; omega
  rw [if_neg (by simp; omega),I,uc E h]
  simp only [Option.bind_some]
  have G:aK ((l.length:Int)+2)=((l.length+2:Nat):Int):=by rw [bG (by omega) (by omega)]; omega
  have b:sub form (aK ((l.length:Int)+2)) (form.length:Int)=o:=by
   rw [G,iD,Int.toNat_natCast,D,List.drop_append]
   simp
  have r:(gJ l).length<cJ:=by
   rw [vW]; have:l.count 44≤l.length:=List.count_le_length; unfold cJ; omega
  unfold Z1_J4
  rw [b,if_pos (by rw [G]; omega),nX (by unfold cJ; omega)]
  by_cases c1:(gJ l).length≤6
  ·have d1:decide (((gJ l).length:Int)>6)=false:=by simp; omega
   rw [d1]
   simp only [bT,Bool.not_false,cond_true,Option.bind_some,Bool.false_or]
   by_cases c2:LT o
   ·rw [decide_eq_true c2,if_neg (by simp)]
    have u:=fA (gJ l) (fun s:Int=>Z1_L3 (gJ l) s) (fun i=>i) (fun g=>decide (LT g)) (.inl ([],[],false)) (.inr ())
     (fun k F=>by
      simp only [Z1_L3]
      rw [if_pos (by simp; omega),if_pos (by omega),cA (by omega),nX (by have:=qn (bF F); unfold cJ; omega)]
      cases decide (LT (ix (gJ l) (k:Int)))<;>rfl)
     (by simp only [Z1_L3]; rw [if_neg (by simp)])
    rw [u]
    by_cases c3:∀ g∈gJ l,LT g
    ·have e:((gJ l).all fun g=>decide (LT g))=true:=by
      rw [List.all_eq_true]; intro g a; exact decide_eq_true (c3 g a)
     rw [e,if_pos rfl]
     simp only [Option.bind_some]
     unfold Z1_J5
     have B:=iu o.length (fun s:Int=>Z1_L4 form (l.length:Int) (gJ l) s) (fun i=>i) (fun k=>decide (OL (gJ l) o k)) (.inl ([],[],false)) (.inr ())
      (fun k F=>by
       simp only [Z1_L4]
       rw [b,if_pos (by simp; omega),AP r (fun g a=>by have:=qn a; unfold cJ; omega) b (by omega)]
       simp only [Option.bind_some,Z1_J7]
       rw [b,if_pos (fun _=>by omega),if_pos (fun _=>by omega),lm]
       have q:bt o (k:Int)=((ix o (k:Int)).toNat:Int):=rfl
       rw [q,wR (by simp; unfold cJ; omega),cA (by unfold cJ; omega)]
       by_cases q1:∃ g∈gJ l,ix o (k:Int)∈g
       ·by_cases q2:ix o (k:Int)∈o.take k
        ·rw [decide_eq_true q1,decide_eq_true q2,decide_eq_false (fun z:OL (gJ l) o k=>z.2 q2)]; rfl
        ·rw [decide_eq_true q1,decide_eq_false q2,show decide (OL (gJ l) o k)=true from decide_eq_true ⟨q1,q2⟩]; rfl
       ·rw [decide_eq_false q1,decide_eq_false (fun z:OL (gJ l) o k=>q1 z.1)]; rfl)
      (by simp only [Z1_L4]; rw [b,if_neg (by simp)])
     rw [B]
     by_cases c4:∀ i∈List.range o.length,OL (gJ l) o i
     ·have m:((List.range o.length).all fun k=>decide (OL (gJ l) o k))=true:=by
       rw [List.all_eq_true]; intro g a; exact decide_eq_true (c4 g a)
      rw [m,if_pos rfl,if_pos ⟨c1,c2,c3,c4⟩]
      simp only [Option.bind_some,Z1_J8]
      rw [b]
     ·have m:((List.range o.length).all fun k=>decide (OL (gJ l) o k))=false:=by
       rw [Bool.eq_false_iff]; intro z
       exact c4 fun i J=>of_decide_eq_true (List.all_eq_true.1 z i J)
      rw [m,if_neg (by simp),if_neg (fun z=>c4 z.2.2.2)]; rfl
    ·have e:((gJ l).all fun g=>decide (LT g))=false:=by
      rw [Bool.eq_false_iff]; intro z
      exact c3 fun g a=>of_decide_eq_true (List.all_eq_true.1 z g a)
     rw [e,if_neg (by simp),if_neg (fun z=>c3 z.2.2.1)]; rfl
   ·rw [decide_eq_false c2,if_pos (by simp),if_neg (fun z=>c2 z.2.1)]
  ·have d1:decide (((gJ l).length:Int)>6)=true:=by simp; omega
   rw [d1,if_neg (fun z=>c1 z.1)]
   simp [bT]
theorem AQ {form:aP}(i:form.length≤1048576):Z37 form str0=some (match qm form with | none=>(form,[],false) | some p=>(p.1,p.2,true)):=by
 unfold Z37 eI cZ
 rw [if_pos (by omega),nY]
 simp only [Option.bind_some]
 cases h:qm form with
 | none=>simp
 | some p =>
  obtain ⟨l,o⟩:=p
  obtain ⟨g,a⟩:=lu h
  have j:form.length=l.length+2+o.length:=by rw [a]; simp; omega
  have e:aK ((l.length:Int)+((str0.length:Nat):Int))=((l.length+2:Nat):Int):=by
   show aK ((l.length:Int)+2)=_
   rw [bG (by omega) (by omega)]; omega
  simp only
  rw [if_pos (by simp),if_pos (by omega),e,if_pos (by omega)]
  have a1:sub form 0 (l.length:Int)=l:=by rw [lm,a]; simp
  have b:sub form ((l.length+2:Nat):Int) (form.length:Int)=o:=by
   rw [iD,Int.toNat_natCast,a,List.drop_append]; simp
  rw [a1,b]; rfl
theorem v' {gs:List aP}{x:Nat}(e:x<gs.length)(h:(ix gs (x:Int)).length<cJ) :
  aU (fun s:Int=>Zg_L2 gs (x:Int) s) 0=some (if ∀ c∈ix gs (x:Int),97≤c.toNat∧c.toNat≤122 then .inr () else .inl ([],[],false)):=by
 obtain ⟨g,a⟩:∃ g,g=ix gs (x:Int):=⟨_,rfl⟩
 have:=fA g (fun s:Int=>Zg_L2 gs (x:Int) s) (fun i=>i) (fun c=>decide (97≤c.toNat∧c.toNat≤122)) (.inl ([],[],false)) (.inr ())
  (fun k j=>by
   have b:bt g (k:Int)=((ix g (k:Int)).toNat:Int):=rfl
   simp only [Zg_L2]
   rw [← a,if_pos (by simp; omega),if_pos (by omega),cA (by rw [← a] at h; omega)]
   by_cases q:97≤(ix g (k:Int)).toNat∧(ix g (k:Int)).toNat≤122
   ·rw [if_neg (by simp only [Bool.or_eq_true,decide_eq_true_eq,b]; omega),decide_eq_true q,if_pos rfl]
   ·rw [if_pos (by simp only [Bool.or_eq_true,decide_eq_true_eq,b]; omega),decide_eq_false q,if_neg (by simp)])
  (by simp only [Zg_L2]; rw [← a,if_neg (by simp)])
 rw [this,← a]
 by_cases c:∀ c∈g,97≤c.toNat∧c.toNat≤122
 ·rw [if_pos c,if_pos (by rw [List.all_eq_true]; intro x e; exact decide_eq_true (c x e))]
 ·rw [if_neg c,if_neg]
  intro z
  exact c fun x e=>of_decide_eq_true (List.all_eq_true.1 z x e)
theorem w0 {form:aP}(M:form.length≤1048576):Zg form=some (parts form):=by
 unfold Zg parts
 rw [AQ M]
 simp only [Option.bind_some]
 cases h:qm form with
 | none=>simp
 | some p =>
  obtain ⟨l,o⟩:=p
  obtain ⟨Y,L⟩:=lu h
  have Z:form.length=l.length+2+o.length:=by rw [L]; simp; omega
  simp only [Bool.not_true,Bool.false_or]
  by_cases c0:o.length≤6
  ·rw [if_neg (by simp; omega),vY (by omega)]
   simp only [Option.bind_some]
   by_cases c1:(gJ l).length≤6
   ·rw [if_neg (by simp; omega)]
    have D:=fA (gJ l) (fun s:Int=>Zg_L1 (gJ l) s) (fun i=>i) (fun g=>decide (LT g)) (.inl ([],[],false)) (.inr ())
     (fun k b=>by
      have e:=qn (bF b)
      simp only [Zg_L1]
      rw [if_pos (by simp; omega),if_pos (by omega)]
      by_cases q1:(ix (gJ l) (k:Int)).length≤6
      ·rw [if_neg (by simp; omega),v' b (by unfold cJ; omega)]
       by_cases q2:∀ c∈ix (gJ l) (k:Int),97≤c.toNat∧c.toNat≤122
       ·rw [if_pos q2,show decide (LT (ix (gJ l) (k:Int)))=true from decide_eq_true ⟨q1,q2⟩,if_pos rfl]
        simp only [Option.bind_some,Zg_J2]
        rw [cA (by unfold cJ; omega)]
       ·rw [if_neg q2,show decide (LT (ix (gJ l) (k:Int)))=false from decide_eq_false (fun z=>q2 z.2),if_neg (by simp)]; rfl
      ·rw [if_pos (by simp; omega),show decide (LT (ix (gJ l) (k:Int)))=false from decide_eq_false (fun z=>q1 z.1),if_neg (by simp)])
     (by simp only [Zg_L1]; rw [if_neg (by simp)])
    rw [D]
    by_cases c3:∀ g∈gJ l,LT g
    ·have r:((gJ l).all fun g=>decide (LT g))=true:=by
      rw [List.all_eq_true]; intro g e; exact decide_eq_true (c3 g e)
     rw [r,if_pos rfl]
     simp only [Option.bind_some]
     unfold Zg_J3
     have E:=iu o.length (fun s:Int=>Zg_L3 (l,o,true) s) (fun i=>i) (fun k=>decide ((97≤(ix o (k:Int)).toNat∧(ix o (k:Int)).toNat≤122)∧OL (gJ l) o k)) (.inl ([],[],false)) (.inr ())
      (fun k b=>by
       have a:bt o (k:Int)=((ix o (k:Int)).toNat:Int):=rfl
       simp only [Zg_L3]
       rw [if_pos (by simp; omega),if_pos (by omega),cA (by unfold cJ; omega),lm]
       by_cases q:97≤(ix o (k:Int)).toNat∧(ix o (k:Int)).toNat≤122
       ·have m:(decide (bt o (k:Int)<97)||decide (bt o (k:Int)>122))=false:=by
         rw [Bool.eq_false_iff]; simp only [ne_eq,Bool.or_eq_true,decide_eq_true_eq,a]; omega
        rw [m,if_pos (fun _=>by omega)]
        have B:ix o (k:Int)≠44:=by
         intro z; rw [z] at q; exact absurd q (by decide)
        obtain ⟨F,T,G⟩:=oD (o.take k) (ix o (k:Int))
        obtain ⟨I,U,s3⟩:=oD l (ix o (k:Int))
        rw [a,T,U]
        simp only [bT,Bool.not_false,cond_true,Option.bind_some,Bool.false_or]
        rw [← vX l _ B] at s3
        by_cases q2:ix o (k:Int)∈o.take k
        ·have:decide (F≥0)=true:=by
          rw [decide_eq_true_eq]
          have:¬ F<0:=fun z=>G.1 z q2
          omega
         rw [this,decide_eq_false (fun z=>z.2.2 q2)]; rfl
        ·have:decide (F≥0)=false:=by
          rw [decide_eq_false_iff_not]
          have:=G.2 q2
          omega
         rw [this]
         simp only [Bool.not_false,cond_true,Option.bind_some,Bool.false_or]
         by_cases q3:∃ g∈gJ l,ix o (k:Int)∈g
         ·have:decide (I<0)=false:=by
           rw [decide_eq_false_iff_not]
           exact fun z=>s3.1 z q3
          rw [this,decide_eq_true ⟨q,q3,q2⟩]; rfl
         ·have:decide (I<0)=true:=decide_eq_true (s3.2 q3)
          rw [this,decide_eq_false (fun z=>q3 z.2.1)]; rfl
       ·have m:(decide (bt o (k:Int)<97)||decide (bt o (k:Int)>122))=true:=by
         simp only [Bool.or_eq_true,decide_eq_true_eq,a]; omega
        rw [m,if_pos (fun z=>by cases z),decide_eq_false (fun z=>q z.1)]
        rfl)
      (by simp only [Zg_L3]; rw [if_neg (by simp)])
     rw [E]
     by_cases c4:PO (gJ l) o
     ·have u:((List.range o.length).all fun k=>decide ((97≤(ix o (k:Int)).toNat∧(ix o (k:Int)).toNat≤122)∧OL (gJ l) o k))=true:=by
       rw [List.all_eq_true]; intro k b
       exact decide_eq_true ⟨c4.2.1.2 _ (bF (List.mem_range.1 b)),c4.2.2.2 k b⟩
      rw [u,if_pos rfl,if_pos c4]; rfl
     ·have u:((List.range o.length).all fun k=>decide ((97≤(ix o (k:Int)).toNat∧(ix o (k:Int)).toNat≤122)∧OL (gJ l) o k))=false:=by
       rw [Bool.eq_false_iff]; intro z
       have J:=List.all_eq_true.1 z
       refine c4 ⟨c1,⟨c0,fun c O=>?_⟩,c3,fun i j=>(of_decide_eq_true (J i j)).2⟩
       obtain ⟨i,j,rfl⟩:=List.mem_iff_getElem.1 O
       have:=(of_decide_eq_true (J i (List.mem_range.2 j))).1
       rwa [bV j] at this
      rw [u,if_neg (by simp),if_neg c4]; rfl
    ·have r:((gJ l).all fun g=>decide (LT g))=false:=by
      rw [Bool.eq_false_iff]; intro z
      exact c3 fun g e=>of_decide_eq_true (List.all_eq_true.1 z g e)
     rw [r,if_neg (by simp),if_neg (fun z=>c3 z.2.2.1)]; rfl
   ·rw [if_pos (by simp; omega),if_neg (fun z=>c1 z.1)]
  ·rw [if_pos (by simp; omega),if_neg (fun z=>c0 z.2.1.1)]
def qo {S:Type}(st:S→Nat→Option S):Nat→S→Option S
 | 0,s=>some s
 | n+1,s=>(qo st n s).bind fun s'=>st s' n
theorem jF {S T A B:Type}{f:T→Option (T⊕(A⊕B))}(st:S→Nat→Option S)(mk:S→Int→T)(h:S→B)(e:A→Prop)(a:Nat→S→Prop)(n:Nat)
  (h1:∀ j s,j<n→a j s→(∃ s',st s j=some s'∧f (mk s (j:Int))=some (.inl (mk s' ((j+1:Nat):Int)))∧a (j+1) s')∨(st s j=none∧∃ b,f (mk s (j:Int))=some (.inr (.inl b))∧e b))
  (h2:∀ s,a n s→f (mk s (n:Int))=some (.inr (.inr (h s)))) {s:S} (D:a 0 s) :
  (∃ s',qo st n s=some s'∧aU f (mk s 0)=some (.inr (h s'))∧a n s')∨(qo st n s=none∧∃ b,aU f (mk s 0)=some (.inl b)∧e b):=by
 have r:∀ j,j≤n→(∃ s',qo st j s=some s'∧aU f (mk s 0)=aU f (mk s' (j:Int))∧a j s')∨(qo st j s=none∧∃ b,aU f (mk s 0)=some (.inl b)∧e b):=by
  intro j
  induction j with
  | zero=>intro _; exact .inl ⟨s,rfl,rfl,D⟩
  | succ j ih =>
   intro E
   rcases ih (by omega) with ⟨s',a1,g,a3⟩|⟨a1,g⟩
   ·rcases h1 j s' (by omega) a3 with ⟨u,i,l,m⟩|⟨i,b,l,m⟩
    ·exact .inl ⟨u,by rw [qo,a1]; exact i,by rw [g,eP l],m⟩
    ·exact .inr ⟨by rw [qo,a1]; exact i,b,by rw [g,dB l],m⟩
   ·exact .inr ⟨by rw [qo,a1]; rfl,g⟩
 rcases r n (Nat.le_refl _) with ⟨s',a1,g,a3⟩ | q
 ·exact .inl ⟨s',a1,by rw [g,dB (h2 s' a3)],a3⟩
 ·exact .inr q
def lk (lens:List Int)(c:UInt8):Int:=ix lens ((c.toNat:Int) - 97)
def lx (s:aP×List Int)(c:UInt8)(d:Int):Option (aP×List Int) :=
 if lk s.2 c≠0∧lk s.2 c≠d then none else some (if c∈s.1 then s.1 else s.1++[c],s.2.set (c.toNat - 97) d)
def m0 (g:aP)(ds:List Int)(s:aP×List Int):Option (aP×List Int) :=
 if g.length=ds.length then qo (fun s k=>lx s (ix g (k:Int)) (ix ds (k:Int))) g.length s else none
def nG (gs:List aP)(dss:List (List Int))(s:aP×List Int):Option (aP×List Int):=qo (fun s k=>m0 (ix gs (k:Int)) (ix dss (k:Int)) s) gs.length s
end Go.Proofs.YthelanpdjajnbaaGreat
