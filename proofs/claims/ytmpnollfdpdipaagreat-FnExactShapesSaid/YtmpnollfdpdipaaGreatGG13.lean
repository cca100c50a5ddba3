import Derived.Test.YtmpnollfdpdipaaGreatGG1
import Derived.KernelRfl
set_option linter.unusedVariables false
set_option linter.unusedSimpArgs false
namespace Go.Proofs.YtmpnollfdpdipaaGreat
open Go Go.Pg
theorem wZ {ds is:List Int}{j:Nat}{m x:Int}(a:j<ds.length)(h:IV (ds.set j m) is)(b:0≤x)(h1:x<ix ds (j:Int)):IV ds (is.set j x):=by
 induction ds generalizing is j with
 | nil=>simp at a
 | cons d ds ih=>cases j with
  | zero=>cases is with
   | nil=>exact h.elim
   | cons i is=>exact ⟨⟨b,h1⟩,h.2⟩
  | succ j=>cases is with
   | nil=>exact h.elim
   | cons i is=>rw [dG] at h1; exact ⟨h.1,ih (by simpa using a) h.2 h1⟩
theorem m0 {ds is:List Int}{j:Nat}{m x:Int}(a:j<ds.length)(h:IV ds is)(b:0≤x)(h1:x<m):IV (ds.set j m) (is.set j x):=by
 induction ds generalizing is j with
 | nil=>simp at a
 | cons d ds ih=>cases j with
  | zero=>cases is with
   | nil=>exact h.elim
   | cons i is=>exact ⟨⟨b,h1⟩,h.2⟩
  | succ j=>cases is with
   | nil=>exact h.elim
   | cons i is=>exact ⟨h.1,ih (by simpa using a) h.2⟩
theorem qm {ds is:List Int}(h:IV ds is)(k:Nat):IV (ds.take k) (is.take k):=by
 induction ds generalizing is k with
 | nil=>cases is with
  | nil=>simp [IV]
  | cons=>exact h.elim
 | cons d ds ih=>cases is with
  | nil=>exact h.elim
  | cons i is=>cases k with
   | zero=>simp [IV]
   | succ k=>exact ⟨h.1,ih h.2 k⟩
def mD (ds:List Int)(a:Int)(xs:List Int):Prop:=0≤a∧a<(ds.length:Int)∧xs≠[]∧(∀ x∈xs,0≤x∧x<ix ds a)∧dZ (ds.set a.toNat (xs.length:Int))
instance (ds:List Int)(a:Int)(xs:List Int):Decidable (mD ds a xs):=by unfold mD; infer_instance
def lH (ds:List Int)(a:Int)(xs:List Int)(n:Int):Prop:=0≤a∧a<(ds.length:Int)∧(xs.length:Int)=ix ds a∧(∀ x∈xs,0≤x∧x<n)∧dZ (ds.set a.toNat n)
instance (ds:List Int)(a:Int)(xs:List Int)(n:Int):Decidable (lH ds a xs n):=by unfold lH; infer_instance
def jD (ds:List Int)(a b f g:Int):Int:=b+ix ds a+(ix ds a - 1)*g+f
def mE (ds:List Int)(a b f g:Int):Prop:=0≤a∧a<(ds.length:Int)∧0≤b∧b≤4096∧0≤f∧f≤4096∧0≤g∧g≤4096∧dZ (ds.set a.toNat (jD ds a b f g))
instance (ds:List Int)(a b f g:Int):Decidable (mE ds a b f g):=by unfold mE; infer_instance
theorem kM {t:Tensor}(h:TT t)(a:Int):Z1g t a=some (decide (0≤a∧a<(t.Dims.length:Int))):=by
 unfold Z1g
 rw [ph h]
 simp only [Option.bind_some,Bool.true_and]
 congr 1
 rw [Bool.eq_iff_iff]
 simp
theorem js {xs:List Int}(h:xs.length≤6){j:Nat}(a:j<xs.length)(x:Int):Z0f xs (j:Int) x=some (xs.set j x):=by
 unfold Z0f
 rw [hN (by omega)]
 simp only [Option.bind_some]
 rw [if_pos (by omega),Int.toNat_natCast]
theorem jP {xs:List Int}(g:xs.length<bZ)(n:Int):Z0g xs n=some (decide (∀ x∈xs,0≤x∧x<n)):=by
 unfold Z0g
 have:=eM xs (fun s:Int=>Z0g_L1 xs n s) (fun i=>i) (fun x=>!(decide (x<0)||decide (x≥n))) (.inl false) (.inr ())
  (fun k b=>by
   simp only [Z0g_L1]
   rw [if_pos (by simp; omega),if_pos (by omega),bX (by omega)]
   cases (decide (ix xs (k:Int)<0)||decide (ix xs (k:Int)≥n))<;>rfl)
  (by simp only [Z0g_L1]; rw [if_neg (by simp)])
 rw [this]
 have e:(xs.all fun x=>!(decide (x<0)||decide (x≥n)))=decide (∀ x∈xs,0≤x∧x<n):=by
  rw [Bool.eq_iff_iff]
  simp only [List.all_eq_true,decide_eq_true_eq,Bool.not_eq_true',Bool.or_eq_false_iff,decide_eq_false_iff_not]
  exact ⟨fun h x a=>by have:=h x a; omega,fun h x a=>by have:=h x a; omega⟩
 rw [e]
 by_cases c:∀ x∈xs,0≤x∧x<n
 ·rw [decide_eq_true c]; rfl
 ·rw [decide_eq_false c]; rfl
theorem sU {t:Tensor}(h:TT t){a:Int}{xs:List Int}(J:xs.length<bZ) :
  (mD t.Dims a xs→∃ d,Z0s t a xs=some ⟨t.Dims.set a.toNat (xs.length:Int),d⟩∧TOk (t.Dims.set a.toNat (xs.length:Int)) d)∧(¬ mD t.Dims a xs→Z0s t a xs=some ⟨[],[]⟩):=by
 have G:=km h
 unfold Z0s
 rw [kM h]
 simp only [Option.bind_some]
 by_cases g:(0≤a∧a<(t.Dims.length:Int))∧xs≠[]
 ·obtain ⟨g1,D⟩:=g
  have Z:xs.length≠0:=fun e=>D (List.eq_nil_of_length_eq_zero e)
  obtain ⟨j,rfl⟩:=Int.eq_ofNat_of_zero_le g1.1
  have i:j<t.Dims.length:=by omega
  have B:(!decide (0≤(j:Int)∧(j:Int)<(t.Dims.length:Int))||(xs.length:Int)==0)=false:=by rw [decide_eq_true g1]; simp [D]
  rw [if_pos (fun _=>g1),B]
  simp only [bP,Bool.not_false,cond_true,Bool.false_or]
  rw [jP J]
  simp only [Option.bind_some,Int.toNat_natCast]
  by_cases g4:∀ x∈xs,0≤x∧x<ix t.Dims (j:Int)
  ·rw [decide_eq_true g4,if_neg (by simp),js G.2 i]
   simp only [Option.bind_some]
   rw [fX (by simp [bZ]; omega)]
   by_cases g5:dZ (t.Dims.set j (xs.length:Int))
   ·simp only [decide_eq_true g5,Option.bind_some,Bool.not_true,Bool.false_eq_true,if_false]
    refine ⟨fun _=>?_,fun q=>absurd ⟨g1.1,g1.2,D,g4,by simpa using g5⟩ q⟩
    rw [kI g5]
    simp only [Option.bind_some]
    have Y:=g5.2.2
    obtain ⟨r,M,O⟩:=kL (f:=fun s:List Int×Int=>Z0s_L1 t (j:Int) xs (t.Dims.set j (xs.length:Int)) ⟨t.Dims.set j (xs.length:Int),List.replicate (pr (t.Dims.set j (xs.length:Int))).toNat 0⟩ s.1 s.2) (Post:=fun r=>RG (pr (t.Dims.set j (xs.length:Int))).toNat r) (pr (t.Dims.set j (xs.length:Int))).toNat (pr (t.Dims.set j (xs.length:Int))).toNat
     (fun k U x E=>by
      have F:=gU g5.2.1 (k:Int)
      have b:=jq (t.Dims.set j (xs.length:Int)) (k:Int)
      have l:=F.mem (j:=j) (by rw [b]; simpa using i)
      rw [wT i] at l
      obtain ⟨q,T⟩:=Int.eq_ofNat_of_zero_le l.1
      have m:=g4 _ (bF (xs:=xs) (k:=q) (by omega))
      have u:=wZ i F m.1 m.2
      obtain ⟨y,L,I⟩:=n6 h u
      simp only [Z0s_L1]
      rw [if_pos (by simp; omega),jr g5 (by omega) (by omega)]
      simp only [Option.bind_some]
      rw [if_pos (by rw [b]; simp; omega),if_pos (by omega),js (by rw [b]; simpa using G.2) (by rw [b]; simpa using i)]
      simp only [Option.bind_some,T,L]
      rw [if_pos (by simp; omega),bX (by unfold bZ; omega)]
      exact ⟨_,rfl,E.set (h.x y I) _⟩)
     (fun x E=>by simp only [Z0s_L1]; rw [if_neg (by simp)]; exact ⟨x,rfl,E⟩) (RG.rep _)
    rw [M]
    exact ⟨r,rfl,gV g5 O⟩
   ·simp only [decide_eq_false g5,Option.bind_some,Bool.not_false,if_true]
    exact ⟨fun q=>absurd (by simpa using q.2.2.2.2) g5,fun _=>by trivial⟩
  ·rw [decide_eq_false g4,if_pos (by simp)]
   exact ⟨fun q=>absurd q.2.2.2.1 g4,fun _=>by trivial⟩
 ·have B:(!decide (0≤a∧a<(t.Dims.length:Int))||(xs.length:Int)==0)=true:=by
   by_cases q:0≤a∧a<(t.Dims.length:Int)
   ·have:xs=[]:=by
     refine Classical.byContradiction fun z=>g ⟨q,z⟩
    subst this; simp
   ·rw [decide_eq_false q]; rfl
  rw [if_pos (fun q=>by rw [B] at q; cases q),B]
  simp only [bP,Bool.not_true,cond_false,Option.bind_some,Bool.true_or,if_true]
  exact ⟨fun q=>absurd ⟨⟨q.1,q.2.1⟩,q.2.2.1⟩ g,fun _=>by trivial⟩
theorem ra {t:Tensor}(h:TT t){a n:Int}{xs:List Int}(F:xs.length<bZ) :
  (lH t.Dims a xs n→∃ d,Z0u t a xs n=some ⟨t.Dims.set a.toNat n,d⟩∧TOk (t.Dims.set a.toNat n) d)∧(¬ lH t.Dims a xs n→Z0u t a xs n=some ⟨[],[]⟩):=by
 have T:=km h
 unfold Z0u
 rw [kM h]
 simp only [Option.bind_some]
 by_cases g1:0≤a∧a<(t.Dims.length:Int)
 ·obtain ⟨j,rfl⟩:=Int.eq_ofNat_of_zero_le g1.1
  have B:j<t.Dims.length:=by omega
  rw [decide_eq_true g1,if_pos (fun _=>g1)]
  simp only [bP,Bool.not_true,Bool.false_or,Int.toNat_natCast]
  by_cases g2:(xs.length:Int)=ix t.Dims (j:Int)
  ·have i:((xs.length:Int) != ix t.Dims (j:Int))=false:=by simp [g2]
   rw [i]
   simp only [Bool.not_false,cond_true,Bool.false_or]
   rw [jP F]
   simp only [Option.bind_some]
   by_cases g4:∀ x∈xs,0≤x∧x<n
   ·rw [decide_eq_true g4,if_neg (by simp),js T.2 B]
    simp only [Option.bind_some]
    rw [fX (by simp [bZ]; omega)]
    by_cases g5:dZ (t.Dims.set j n)
    ·simp only [decide_eq_true g5,Option.bind_some,Bool.not_true,Bool.false_eq_true,if_false]
     refine ⟨fun _=>?_,fun q=>absurd ⟨g1.1,g1.2,g2,g4,by simpa using g5⟩ q⟩
     rw [kI g5]
     simp only [Option.bind_some]
     have Z:=h.d.2.2
     obtain ⟨r,J,M⟩:=kL (f:=fun s:List Int×Int=>Z0u_L1 t (j:Int) xs ⟨t.Dims.set j n,List.replicate (pr (t.Dims.set j n)).toNat 0⟩ s.1 s.2) (Post:=fun r=>RG (pr (t.Dims.set j n)).toNat r) (pr (t.Dims.set j n)).toNat t.Data.length
      (fun k Y x g=>by
       have D:=gU h.d.2.1 (k:Int)
       have L:=jq t.Dims (k:Int)
       have u:=D.mem (j:=j) (by omega)
       obtain ⟨q,O⟩:=Int.eq_ofNat_of_zero_le u.1
       have e:=g4 _ (bF (xs:=xs) (k:=q) (by omega))
       have b:=m0 (m:=n) B D e.1 e.2
       have tk:TT ⟨t.Dims.set j n,x⟩:=gV g5 g
       obtain ⟨y,I,U⟩:=n6 (t:=⟨t.Dims.set j n,x⟩) tk b
       obtain ⟨m,E,G⟩:=nH y (ix t.Data (k:Int))
       simp only [Z0u_L1]
       rw [if_pos (by simp; omega),jr h.d (by omega) (by omega)]
       simp only [Option.bind_some]
       rw [if_pos (by omega),if_pos (by omega),js (by omega) (by omega)]
       simp only [Option.bind_some,O,I]
       rw [if_pos (by omega),E]
       simp only [Option.bind_some]
       rw [sF (t:=⟨t.Dims.set j n,x⟩) g5 tk.l b,bX (by unfold bZ; omega)]
       exact ⟨_,rfl,g.set G _⟩)
      (fun x g=>by simp only [Z0u_L1]; rw [if_neg (by simp)]; exact ⟨x,rfl,g⟩) (RG.rep _)
     rw [J]
     exact ⟨r,rfl,gV g5 M⟩
    ·simp only [decide_eq_false g5,Option.bind_some,Bool.not_false,if_true]
     exact ⟨fun q=>absurd (by simpa using q.2.2.2.2) g5,fun _=>by trivial⟩
   ·rw [decide_eq_false g4,if_pos (by simp)]
    exact ⟨fun q=>absurd q.2.2.2.1 g4,fun _=>by trivial⟩
  ·have i:((xs.length:Int) != ix t.Dims (j:Int))=true:=by simp [g2]
   rw [i]
   simp only [Bool.not_true,cond_false,Option.bind_some,Bool.true_or,if_true]
   exact ⟨fun q=>absurd q.2.2.1 g2,fun _=>by trivial⟩
 ·rw [decide_eq_false g1,if_pos (fun q=>by cases q)]
  simp only [bP,Bool.not_false,Bool.true_or,Bool.not_true,cond_false,Option.bind_some,if_true]
  exact ⟨fun q=>absurd ⟨q.1,q.2.1⟩ g1,fun _=>by trivial⟩
theorem zI {t:Tensor}(h:TT t){a b f g:Int} :
  (mE t.Dims a b f g→∃ d,Z0t t a b f g=some ⟨t.Dims.set a.toNat (jD t.Dims a b f g),d⟩∧TOk (t.Dims.set a.toNat (jD t.Dims a b f g)) d)∧(¬ mE t.Dims a b f g→Z0t t a b f g=some ⟨[],[]⟩):=by
 have M:=km h
 unfold Z0t
 rw [kM h]
 simp only [Option.bind_some]
 by_cases c:(0≤a∧a<(t.Dims.length:Int))∧0≤b∧b≤4096∧0≤f∧f≤4096∧0≤g∧g≤4096
 ·obtain ⟨g1,c1,U,O,I,i,F⟩:=c
  obtain ⟨j,rfl⟩:=Int.eq_ofNat_of_zero_le g1.1
  have D:j<t.Dims.length:=by omega
  have hm:=h.d.2.mem (bF D)
  have k0:0≤(ix t.Dims (j:Int) - 1)*g:=Int.mul_nonneg (by omega) i
  have k1:=Int.mul_le_mul (show ix t.Dims (j:Int) - 1≤4096 by omega) F i (show (0:Int)≤4096 by omega)
  have e:aH (aH (aH (b+ix t.Dims (j:Int))+aH (aH (ix t.Dims (j:Int) - 1)*g))+f)=jD t.Dims (j:Int) b f g:=by
   rw [bA (n:=b+ix t.Dims (j:Int)) (by omega) (by omega),bA (n:=ix t.Dims (j:Int) - 1) (by omega) (by omega),bA (n:=(ix t.Dims (j:Int) - 1)*g) (by omega) (by omega),bA (n:=b+ix t.Dims (j:Int)+(ix t.Dims (j:Int) - 1)*g) (by omega) (by omega),bA (by omega) (by omega)]
   rfl
  rw [if_neg (by simp; omega),if_pos g1,e,js M.2 D]
  simp only [Option.bind_some,Int.toNat_natCast]
  rw [fX (by simp [bZ]; omega)]
  by_cases g5:dZ (t.Dims.set j (jD t.Dims (j:Int) b f g))
  ·simp only [decide_eq_true g5,Option.bind_some,Bool.not_true,Bool.false_eq_true,if_false]
   refine ⟨fun _=>?_,fun q=>absurd ⟨g1.1,g1.2,c1,U,O,I,i,F,by simpa using g5⟩ q⟩
   rw [kI g5]
   simp only [Option.bind_some]
   have hp:=h.d.2.2
   obtain ⟨r,Z,T⟩:=kL (f:=fun s:List Int×Int=>Z0t_L1 t (j:Int) b g ⟨t.Dims.set j (jD t.Dims (j:Int) b f g),List.replicate (pr (t.Dims.set j (jD t.Dims (j:Int) b f g))).toNat 0⟩ s.1 s.2) (Post:=fun r=>RG (pr (t.Dims.set j (jD t.Dims (j:Int) b f g))).toNat r) (pr (t.Dims.set j (jD t.Dims (j:Int) b f g))).toNat t.Data.length
    (fun k J x B=>by
     have G:=gU h.d.2.1 (k:Int)
     have Y:=jq t.Dims (k:Int)
     have E:=G.mem (j:=j) (by omega)
     have z0:0≤ix (gT t.Dims (k:Int)) (j:Int)*g:=Int.mul_nonneg E.1 i
     have z1:ix (gT t.Dims (k:Int)) (j:Int)*g≤(ix t.Dims (j:Int) - 1)*g:=Int.mul_le_mul_of_nonneg_right (by omega) i
     have L:aH (b+aH (ix (gT t.Dims (k:Int)) (j:Int)*aH (g+1)))=b+(ix (gT t.Dims (k:Int)) (j:Int)*g+ix (gT t.Dims (k:Int)) (j:Int)):=by
      rw [bA (n:=g+1) (by omega) (by omega),Int.mul_add,Int.mul_one,bA (n:=ix (gT t.Dims (k:Int)) (j:Int)*g+ix (gT t.Dims (k:Int)) (j:Int)) (by omega) (by omega),bA (by omega) (by omega)]
     have u:=m0 (m:=jD t.Dims (j:Int) b f g) (x:=b+(ix (gT t.Dims (k:Int)) (j:Int)*g+ix (gT t.Dims (k:Int)) (j:Int))) D G (by omega) (by unfold jD; omega)
     have tk:TT ⟨t.Dims.set j (jD t.Dims (j:Int) b f g),x⟩:=gV g5 B
     simp only [Z0t_L1]
     rw [if_pos (by simp; omega),jr h.d (by omega) (by omega)]
     simp only [Option.bind_some]
     rw [if_pos (by omega),L,js (by omega) (by omega)]
     simp only [Option.bind_some]
     rw [if_pos (by omega),sF (t:=⟨t.Dims.set j (jD t.Dims (j:Int) b f g),x⟩) g5 tk.l u,bX (by unfold bZ; omega)]
     exact ⟨_,rfl,B.set (h.x _ (bF J)) _⟩)
    (fun x B=>by simp only [Z0t_L1]; rw [if_neg (by simp)]; exact ⟨x,rfl,B⟩) (RG.rep _)
   rw [Z]
   exact ⟨r,rfl,gV g5 T⟩
  ·simp only [decide_eq_false g5,Option.bind_some,Bool.not_false,if_true]
   exact ⟨fun q=>absurd (by simpa using q.2.2.2.2.2.2.2.2) g5,fun _=>by trivial⟩
 ·rw [if_pos (by simp only [Bool.or_eq_true,Bool.not_eq_true',decide_eq_true_eq,decide_eq_false_iff_not]; omega)]
  exact ⟨fun q=>absurd ⟨⟨q.1,q.2.1⟩,q.2.2.1,q.2.2.2.1,q.2.2.2.2.1,q.2.2.2.2.2.1,q.2.2.2.2.2.2.1,q.2.2.2.2.2.2.2.1⟩ c,fun _=>by trivial⟩
def lK (ds:List Int)(a st n:Int):Prop:=0≤a∧a<(ds.length:Int)∧a≠(ds.length:Int) - 1∧1≤st∧1≤n∧n≤4096∧ix ds ((ds.length:Int) - 1)≤n∧(n - ix ds ((ds.length:Int) - 1)) / st+1=ix ds a∧dZ ((ds.set a.toNat n).take (ds.length - 1))
instance (ds:List Int)(a st n:Int):Decidable (lK ds a st n):=by unfold lK; infer_instance
theorem kN {α:Type}(xs:List α)(k:Nat):sub xs 0 (k:Int)=xs.take k:=by simp [sub]
theorem x0 {t:Tensor}(h:TT t){a st n:Int} :
  (lK t.Dims a st n→∃ d,Z0r t a st n=some ⟨(t.Dims.set a.toNat n).take (t.Dims.length - 1),d⟩∧TOk ((t.Dims.set a.toNat n).take (t.Dims.length - 1)) d)∧(¬ lK t.Dims a st n→Z0r t a st n=some ⟨[],[]⟩):=by
 have U:=km h
 have M:aH ((t.Dims.length:Int) - 1)=(t.Dims.length:Int) - 1:=bA (by omega) (by omega)
 unfold Z0r
 rw [kM h,M]
 simp only [Option.bind_some]
 by_cases c:(0≤a∧a<(t.Dims.length:Int))∧a≠(t.Dims.length:Int) - 1∧1≤st∧1≤n∧n≤4096
 ·obtain ⟨g1,G,c2,Y,J⟩:=c
  obtain ⟨j,rfl⟩:=Int.eq_ofNat_of_zero_le g1.1
  have u:j<t.Dims.length:=by omega
  obtain ⟨l,E⟩:∃ l,l=t.Dims.length - 1:=⟨_,rfl⟩
  have g:(t.Dims.length:Int) - 1=(l:Int):=by omega
  have w2:aH (l:Int)=(l:Int):=bA (by omega) (by omega)
  have hm:=h.d.2.mem (bF u)
  have O:=h.d.2.mem (bF (xs:=t.Dims) (k:=l) (by omega))
  rw [g] at G ⊢
  rw [if_neg (by simp; omega),if_pos (by omega),if_pos (fun _=>by omega),if_pos (fun _=>g1)]
  unfold lK
  rw [g,← E]
  by_cases c5:ix t.Dims (l:Int)≤n
  ·have q0:0≤(n - ix t.Dims (l:Int)) / st:=Int.ediv_nonneg (by omega) (by omega)
   have q1:(n - ix t.Dims (l:Int)) / st≤n - ix t.Dims (l:Int):=Int.ediv_le_self _ (by omega)
   have e:aH (aH ((aH (n - ix t.Dims (l:Int))).tdiv st)+1)=(n - ix t.Dims (l:Int)) / st+1:=by
    rw [bA (n:=n - ix t.Dims (l:Int)) (by omega) (by omega),Int.tdiv_eq_ediv_of_nonneg (by omega),bA (n:=(n - ix t.Dims (l:Int)) / st) (by omega) (by omega),bA (by omega) (by omega)]
   rw [e]
   by_cases c6:(n - ix t.Dims (l:Int)) / st+1=ix t.Dims (j:Int)
   ·rw [if_neg (by simp [c6]; omega),js U.2 u]
    simp only [Option.bind_some,Int.toNat_natCast]
    rw [if_pos (by simp; omega),kN,fX (by simp [bZ]; omega)]
    by_cases g5:dZ ((t.Dims.set j n).take l)
    ·simp only [decide_eq_true g5,Option.bind_some,Bool.not_true,Bool.false_eq_true,if_false]
     refine ⟨fun _=>?_,fun q=>absurd ⟨g1.1,g1.2,G,c2,Y,J,c5,c6,g5⟩ q⟩
     rw [kI g5]
     simp only [Option.bind_some]
     have hp:=h.d.2.2
     have q3:=Int.ediv_mul_le (n - ix t.Dims (l:Int)) (show st≠0 by omega)
     obtain ⟨r,e1,e2⟩:=kL (f:=fun s:List Int×Int=>Z0r_L1 t (j:Int) st ⟨(t.Dims.set j n).take l,List.replicate (pr ((t.Dims.set j n).take l)).toNat 0⟩ s.1 s.2) (Post:=fun r=>RG (pr ((t.Dims.set j n).take l)).toNat r) (pr ((t.Dims.set j n).take l)).toNat t.Data.length
      (fun k hk x i=>by
       have B:=gU h.d.2.1 (k:Int)
       have a0:=jq t.Dims (k:Int)
       have D:=B.mem (j:=j) (by omega)
       have F:=B.mem (j:=l) (by omega)
       have z0:0≤ix (gT t.Dims (k:Int)) (j:Int)*st:=Int.mul_nonneg D.1 (by omega)
       have z1:ix (gT t.Dims (k:Int)) (j:Int)*st≤(n - ix t.Dims (l:Int)) / st*st:=Int.mul_le_mul_of_nonneg_right (by omega) (by omega)
       have T:aH (aH (ix (gT t.Dims (k:Int)) (j:Int)*st)+ix (gT t.Dims (k:Int)) (l:Int))=ix (gT t.Dims (k:Int)) (j:Int)*st+ix (gT t.Dims (k:Int)) (l:Int):=by
        rw [bA (n:=ix (gT t.Dims (k:Int)) (j:Int)*st) (by omega) (by omega),bA (by omega) (by omega)]
       have b:=qm (m0 (m:=n) (x:=ix (gT t.Dims (k:Int)) (j:Int)*st+ix (gT t.Dims (k:Int)) (l:Int)) u B (by omega) (by omega)) l
       have tk:TT ⟨(t.Dims.set j n).take l,x⟩:=gV g5 i
       obtain ⟨y,Z,y2⟩:=n6 (t:=⟨(t.Dims.set j n).take l,x⟩) tk b
       obtain ⟨m,I,L⟩:=nH y (ix t.Data (k:Int))
       simp only [Z0r_L1,g,w2]
       rw [if_pos (by simp; omega),jr h.d (by omega) (by omega)]
       simp only [Option.bind_some]
       rw [if_pos (by omega),if_pos (by omega),T,js (by omega) (by omega)]
       simp only [Option.bind_some]
       rw [if_pos (by simp; omega),kN,Z]
       simp only [Option.bind_some]
       rw [if_pos (by omega),I]
       simp only [Option.bind_some]
       rw [sF (t:=⟨(t.Dims.set j n).take l,x⟩) g5 tk.l b,bX (by unfold bZ; omega)]
       exact ⟨_,rfl,i.set L _⟩)
      (fun x i=>by simp only [Z0r_L1]; rw [if_neg (by simp)]; exact ⟨x,rfl,i⟩) (RG.rep _)
     rw [e1]
     exact ⟨r,rfl,gV g5 e2⟩
    ·simp only [decide_eq_false g5,Option.bind_some,Bool.not_false,if_true]
     exact ⟨fun q=>absurd q.2.2.2.2.2.2.2.2 g5,fun _=>by trivial⟩
   ·rw [if_pos (by simp [c6])]
    exact ⟨fun q=>absurd q.2.2.2.2.2.2.2.1 c6,fun _=>by trivial⟩
  ·rw [if_pos (by simp; omega)]
   exact ⟨fun q=>absurd q.2.2.2.2.2.2.1 c5,fun _=>by trivial⟩
 ·rw [if_pos (by simp only [Bool.or_eq_true,Bool.not_eq_true',decide_eq_true_eq,decide_eq_false_iff_not,beq_iff_eq]; omega)]
  exact ⟨fun q=>absurd ⟨⟨q.1,q.2.1⟩,q.2.2.1,q.2.2.2.1,q.2.2.2.2.1,q.2.2.2.2.2.1⟩ c,fun _=>by trivial⟩
theorem x5 {t:Tensor}(h:TT t){j:Nat}(l:j<t.Dims.length){is:List Int}(u:IV t.Dims is):∃ xs,Z0x t (j:Int) is=some xs∧xs.length≤4096:=by
 have J:=km h
 have E:=u.len
 have I:=h.d.2.mem (bF l)
 unfold Z0x
 obtain ⟨r,D,F⟩:=hW (f:=fun s:List Int×Int=>Z0x_L1 t (j:Int) is s.1 s.2) (fun k s=>s.2=(k:Int)∧s.1.length=k) (ix t.Dims (j:Int)).toNat (Post:=fun r=>r.length≤4096)
  (fun k s G q=>by
   obtain ⟨x,i⟩:=s
   obtain ⟨a,g⟩:=q
   simp only at a g
   subst a
   have b:IV t.Dims (is.set j (k:Int)):=by
    have:=m0 (m:=ix t.Dims (j:Int)) (x:=(k:Int)) l u (by omega) (by omega)
    have e:t.Dims.set j (ix t.Dims (j:Int))=t.Dims:=by rw [bU l]; simp
    rw [e] at this; exact this
   obtain ⟨y,B,_⟩:=n6 h b
   simp only [Z0x_L1]
   rw [if_pos (by omega),if_pos (by simp; omega),js (by omega) (by omega)]
   simp only [Option.bind_some,B]
   rw [if_pos (by simp; omega),bX (by unfold bZ; omega)]
   exact ⟨_,rfl,rfl,by simp [g]⟩)
  (fun s q=>by
   obtain ⟨x,i⟩:=s
   obtain ⟨a,g⟩:=q
   simp only at a g
   subst a
   simp only [Z0x_L1]
   rw [if_pos (by omega),if_neg (by simp; omega)]
   exact ⟨x,rfl,by omega⟩) (s:=([],0)) ⟨rfl,rfl⟩
 rw [D]
 exact ⟨r,rfl,F⟩
theorem zJ {t:Tensor}(h:TT t){a:Int}:(0≤a∧a<(t.Dims.length:Int)→∃ d,Za t a=some ⟨t.Dims,d⟩∧TOk t.Dims d)∧(¬ (0≤a∧a<(t.Dims.length:Int))→Za t a=some ⟨[],[]⟩):=by
 have Y:=km h
 unfold Za
 rw [kM h]
 simp only [Option.bind_some]
 by_cases g1:0≤a∧a<(t.Dims.length:Int)
 ·obtain ⟨j,rfl⟩:=Int.eq_ofNat_of_zero_le g1.1
  have B:j<t.Dims.length:=by omega
  rw [decide_eq_true g1,if_neg (by simp),kI h.d]
  simp only [Option.bind_some]
  refine ⟨fun _=>?_,fun q=>absurd g1 q⟩
  have T:=h.d.2.2
  have L:(pr t.Dims).toNat=t.Data.length:=(oG h).1.symm
  obtain ⟨r,G,J⟩:=kL (f:=fun s:List Int×Int=>Za_L1 t (j:Int) ⟨t.Dims,List.replicate (pr t.Dims).toNat 0⟩ s.1 s.2) (Post:=fun r=>RG (pr t.Dims).toNat r) (pr t.Dims).toNat t.Data.length
   (fun k O x g=>by
    have D:=gU h.d.2.1 (k:Int)
    have F:=jq t.Dims (k:Int)
    obtain ⟨xs,l,M⟩:=x5 h B D
    simp only [Za_L1]
    rw [if_pos (by simp; omega),jr h.d (by omega) (by omega)]
    simp only [Option.bind_some,l]
    obtain ⟨b,E,_⟩:=hW (f:=fun s:Bool×Int=>Za_L2 t (j:Int) (k:Int) (gT t.Dims (k:Int)) xs s.1 s.2) (fun q s=>s.2=(q:Int)) xs.length (Post:=fun _=>True)
     (fun q s U e=>by
      obtain ⟨b,i⟩:=s
      simp only at e
      subst e
      obtain ⟨u,m⟩:=jO (ix xs (q:Int))
      obtain ⟨v,I⟩:=jO (ix t.Data (k:Int))
      simp only [Za_L2,Za_J6]
      rw [if_pos (by simp; omega),if_pos (by omega),m]
      simp only [Option.bind_some]
      rw [if_pos (by omega),I]
      simp only [Option.bind_some]
      rw [if_pos (fun _ _=>by omega),bX (by unfold bZ; omega)]
      split<;>exact ⟨_,rfl,rfl⟩)
     (fun s e=>by
      obtain ⟨b,i⟩:=s
      simp only at e
      subst e
      simp only [Za_L2]
      rw [if_neg (by simp)]
      exact ⟨b,rfl,trivial⟩) (s:=(true,0)) rfl
    rw [E]
    simp only [Option.bind_some,Za_J7,Za_J8]
    rw [bX (by unfold bZ; omega)]
    split
    ·rw [if_pos (by simp; omega)]
     exact ⟨_,rfl,g.set (by decide) _⟩
    ·exact ⟨_,rfl,g⟩)
   (fun x g=>by simp only [Za_L1]; rw [if_neg (by simp)]; exact ⟨x,rfl,g⟩) (RG.rep _)
  rw [G]
  exact ⟨r,rfl,gV h.d J⟩
 ·rw [decide_eq_false g1,if_pos (by simp)]
  exact ⟨fun q=>absurd q g1,fun _=>by trivial⟩
theorem ly {α R:Type}{f:List α×Int→Option ((List α×Int)⊕R)}(n w a:Nat){Post:R→Prop}(x:List α)(l:∀ j:Nat,j<n→∀ y,y.length+w≤a→∃ b,f (y,(j:Int))=some (.inl (b,((j+1:Nat):Int)))∧b.length≤y.length+w)
  (m:∀ y,y.length≤x.length+n*w→∃ r,f (y,(n:Int))=some (.inr r)∧Post r) (u:x.length+n*w≤a):∃ r,aR f (x,0)=some r∧Post r :=
 hW (f:=f) (fun j s=>s.2=(j:Int)∧s.1.length≤x.length+j*w) n (fun j s h g=>by
  obtain ⟨y,i⟩:=s
  obtain ⟨rfl,e⟩:=g
  have h1:(j+1)*w≤n*w:=Nat.mul_le_mul_right w h
  rw [Nat.succ_mul] at h1
  simp only at e
  obtain ⟨b,g1,q⟩:=l j h y (by omega)
  exact ⟨_,g1,rfl,by rw [Nat.succ_mul]; simp only; omega⟩) (fun s g=>by
  obtain ⟨y,i⟩:=s
  obtain ⟨rfl,e⟩:=g
  exact m y e) (s:=(x,0)) ⟨rfl,by simp⟩
theorem nJ {xs:List Int}(h:xs.length≤6){j:Nat}(a:j<xs.length)(x:Int):Z1l xs (j:Int) x=some (xs.set j x):=by
 unfold Z1l
 rw [gF (by omega)]
 simp only [Option.bind_some]
 rw [if_pos (by omega),Int.toNat_natCast]
theorem qn {ds:List Int}(h:dZ ds){j:Nat}(b:j<ds.length):Z22 ds (j:Int)=some (pr (ds.take j),ix ds (j:Int),pr (ds.drop (j+1))):=by
 have a:=h.1
 unfold Z22
 rw [if_pos (by omega),kN,l5 (by simp [bZ]; omega) (h.2.take j)]
 simp only [Option.bind_some]
 rw [if_pos (by omega),bX (by unfold bZ; omega),if_pos (by omega),hD,Int.toNat_natCast,l5 (by simp [bZ]; omega) (h.2.drop (j+1))]
 rfl
theorem nK {ds:List Int}(h:dZ ds){j:Nat}(E:j<ds.length)(n:Int){l:List pair}(I:l.length≤4096):∃ ps,Z7 ds (j:Int) n l=some ps:=by
 have hn:=h.1
 unfold Z7
 rw [qn h E]
 simp only [Option.bind_some]
 obtain ⟨a,U⟩:∃ a:Nat,(a:Int)=pr (ds.take j):=⟨(pr (ds.take j)).toNat,by have:=(h.2.take j).pos; omega⟩
 obtain ⟨b,F⟩:∃ b:Nat,(b:Int)=pr (ds.drop (j+1)):=⟨(pr (ds.drop (j+1))).toNat,by have:=(h.2.drop (j+1)).pos; omega⟩
 have m:=(h.2.take j).2
 have u:=(h.2.drop (j+1)).2
 have a0:=(h.2.take j).pos
 have M:=(h.2.drop (j+1)).pos
 rw [← U] at m a0 ⊢
 rw [← F] at u M ⊢
 have k1:(a:Int)*b≤4096*4096:=Int.mul_le_mul m u (by omega) (by omega)
 have T:0≤(a:Int)*b:=Int.mul_nonneg (by omega) (by omega)
 have Y:(a:Int)*b*l.length≤4096*4096*4096:=Int.mul_le_mul k1 (by omega) (by omega) (by omega)
 have k4:0≤(a:Int)*b*l.length:=Int.mul_nonneg T (by omega)
 have D:l.length*b≤4096*4096:=Nat.mul_le_mul I (by omega)
 have O:a*(l.length*b)≤4096*(4096*4096):=Nat.mul_le_mul (by omega) D
 rw [bA (n:=(a:Int)*b) (by omega) (by omega),bA (by omega) (by omega),if_pos (by omega)]
 obtain ⟨r,e,_⟩:=ly (f:=fun s:List pair×Int=>Z7_L1 n l ((a:Int),ix ds (j:Int),(b:Int)) s.1 s.2) a (l.length*b) 8796093022208 (Post:=fun _=>True) []
  (fun i Z y J=>by
   simp only [Z7_L1,Z7_J6]
   rw [if_pos (by simp; omega),bX (by unfold bZ; omega)]
   obtain ⟨r2,L,G⟩:=ly (f:=fun s:List pair×Int=>Z7_L2 n l ((a:Int),ix ds (j:Int),(b:Int)) (i:Int) s.1 s.2) l.length b 8796093022208 (Post:=fun r=>r.length≤y.length+l.length*b) y
    (fun k hk z hz=>by
     simp only [Z7_L2,Z7_J5]
     rw [if_pos (by simp; omega),if_pos (by omega),bX (by unfold bZ; omega)]
     obtain ⟨r3,B,p3⟩:=ly (f:=fun s:List pair×Int=>Z7_L3 n l ((a:Int),ix ds (j:Int),(b:Int)) (i:Int) (k:Int) s.1 s.2) b 1 8796093022208 (Post:=fun r=>r.length≤z.length+b*1) z
      (fun q hq v g=>by
       simp only [Z7_L3]
       rw [if_pos (by simp; omega),if_pos (by simp; omega),bX (by unfold bZ; omega)]
       exact ⟨_,rfl,by simp⟩)
      (fun v g=>by simp only [Z7_L3]; rw [if_neg (by simp)]; exact ⟨v,rfl,g⟩) (by omega)
     rw [B]
     exact ⟨_,rfl,by omega⟩)
    (fun v g=>by simp only [Z7_L2]; rw [if_neg (by simp)]; exact ⟨v,rfl,g⟩) J
   rw [L]
   exact ⟨_,rfl,G⟩)
  (fun v g=>by simp only [Z7_L1]; rw [if_neg (by simp)]; exact ⟨v,rfl,trivial⟩) (by simp; omega)
 rw [e]
 exact ⟨r,rfl⟩
theorem l6 {xs:List Int}{p:Int→Prop}(i:∀ x,Decidable (p x))(h:¬ ∀ x∈xs,p x):∃ m,m<xs.length∧¬ p (ix xs (m:Int))∧∀ k:Nat,k<m→p (ix xs (k:Int)):=by
 induction xs with
 | nil=>exact absurd (fun x b=>by cases b) h
 | cons x xs ih =>
  by_cases c:p x
  ·obtain ⟨m,h1,h2,g⟩:=ih fun q=>h fun y a=>by
    rcases List.mem_cons.1 a with rfl | a
    ·exact c
    ·exact q y a
   refine ⟨m+1,by simpa using h1,by rw [dG]; exact h2,?_⟩
   intro k e
   cases k with
   | zero=>exact c
   | succ k=>rw [dG]; exact g k (by omega)
  ·exact ⟨0,by simp,c,fun k e=>by omega⟩
def Sh (o:Option (List Int×List pair×Bool))(c:Prop)[Decidable c](d:List Int):Prop:=∃ ds ps,o=some (ds,ps,decide c)∧(c→ds=d)
theorem sW {ds:List Int}(h:dZ ds){a:Int}{xs:List Int}(Y:xs.length<bZ):Sh (Z0a ds a xs) (mD ds a xs) (ds.set a.toNat (xs.length:Int)):=by
 have M:=h.1
 unfold Z0a
 simp only [Zk,Option.bind_some]
 by_cases c:(0≤a∧a<(ds.length:Int))∧xs≠[]∧xs.length≤4096
 ·obtain ⟨g1,B,g3⟩:=c
  obtain ⟨j,rfl⟩:=Int.eq_ofNat_of_zero_le g1.1
  have I:j<ds.length:=by omega
  have g4:xs.length≠0:=fun e=>B (List.eq_nil_of_length_eq_zero e)
  rw [if_neg (by simp [B]; omega)]
  by_cases g5:∀ x∈xs,0≤x∧x<ix ds (j:Int)
  ·obtain ⟨r,G,E⟩:=hW (f:=fun s:List pair×Int=>Z0a_L1 ds (j:Int) xs s.1 s.2) (fun k s=>s.2=(k:Int)∧s.1.length=k) xs.length (Post:=fun r=>∃ l,r=.inr l∧l.length≤4096)
    (fun k s D u=>by
     obtain ⟨y,i⟩:=s
     obtain ⟨b,g⟩:=u
     simp only at b g
     subst b
     have:=g5 _ (bF D)
     simp only [Z0a_L1]
     rw [if_pos (by simp; omega),if_pos (by omega),if_pos (fun _=>g1),if_neg (by simp; omega),if_pos (by simp; omega),bX (by unfold bZ; omega)]
     exact ⟨_,rfl,rfl,by simp [g]⟩)
    (fun s u=>by
     obtain ⟨y,i⟩:=s
     obtain ⟨b,g⟩:=u
     simp only at b g
     subst b
     simp only [Z0a_L1]
     rw [if_neg (by simp)]
     exact ⟨_,rfl,y,rfl,by omega⟩) (s:=([],0)) ⟨rfl,rfl⟩
   obtain ⟨l,rfl,J⟩:=E
   rw [G]
   simp only [Option.bind_some,Z0a_J1]
   rw [nJ M I]
   simp only [Option.bind_some]
   rw [gS (by simp [bZ]; omega)]
   by_cases g6:dZ (ds.set j (xs.length:Int))
   ·have T:mD ds (j:Int) xs:=⟨g1.1,g1.2,B,g5,by simpa using g6⟩
    obtain ⟨ps,F⟩:=nK h I (xs.length:Int) J
    simp only [decide_eq_true g6,Option.bind_some,Bool.not_true,Bool.false_eq_true,if_false]
    rw [F]
    exact ⟨_,ps,by rw [decide_eq_true T]; rfl,fun _=>by simp⟩
   ·have no:¬ mD ds (j:Int) xs:=fun q=>g6 (by simpa using q.2.2.2.2)
    simp only [decide_eq_false g6,Option.bind_some,Bool.not_false,if_true]
    exact ⟨_,_,by rw [decide_eq_false no],fun q=>absurd q no⟩
  ·have no:¬ mD ds (j:Int) xs:=fun q=>g5 q.2.2.2.1
   obtain ⟨m,U,Z,O⟩:=l6 (fun _=>inferInstance) g5
   obtain ⟨r,G,E⟩:=hW (f:=fun s:List pair×Int=>Z0a_L1 ds (j:Int) xs s.1 s.2) (fun k s=>s.2=(k:Int)∧s.1.length=k) m (Post:=fun r=>r=.inl ([],[],false))
    (fun k s D u=>by
     obtain ⟨y,i⟩:=s
     obtain ⟨b,g⟩:=u
     simp only at b g
     subst b
     have:=O k D
     simp only [Z0a_L1]
     rw [if_pos (by simp; omega),if_pos (by omega),if_pos (fun _=>g1),if_neg (by simp; omega),if_pos (by simp; omega),bX (by unfold bZ; omega)]
     exact ⟨_,rfl,rfl,by simp [g]⟩)
    (fun s u=>by
     obtain ⟨y,i⟩:=s
     obtain ⟨b,g⟩:=u
     simp only at b g
     subst b
     simp only [Z0a_L1]
     rw [if_pos (by simp; omega),if_pos (by omega),if_pos (fun _=>g1),if_pos (by simp only [Bool.or_eq_true,decide_eq_true_eq]; omega)]
     exact ⟨_,rfl,rfl⟩) (s:=([],0)) ⟨rfl,rfl⟩
   rw [G,E]
   exact ⟨_,_,by rw [decide_eq_false no]; rfl,fun q=>absurd q no⟩
 ·have no:¬ mD ds a xs:=fun q=>c ⟨⟨q.1,q.2.1⟩,q.2.2.1,by
   have:=q.2.2.2.2.2.mem (d:=(xs.length:Int)) (by
    have:a.toNat<ds.length:=by have:=q.1; have:=q.2.1; omega
    exact List.mem_iff_getElem.2 ⟨a.toNat,by simpa using this,by simp⟩)
   omega⟩
  have L:((!(decide (a≥0)&&decide (a<(ds.length:Int)))||(xs.length:Int)==0)||decide ((xs.length:Int)>4096))=true:=by
   by_cases q:0≤a∧a<(ds.length:Int)
   ·by_cases q2:xs=[]
    ·subst q2; simp
    ·have:¬ xs.length≤4096:=fun z=>c ⟨q,q2,z⟩
     have:(xs.length:Int)>4096:=by omega
     simp [this]
   ·have:(decide (a≥0)&&decide (a<(ds.length:Int)))=false:=by simp; omega
    rw [this]; rfl
  rw [if_pos L]
  exact ⟨_,_,by rw [decide_eq_false no],fun q=>absurd q no⟩
theorem rb {ds:List Int}(h:dZ ds){a n:Int}{xs:List Int}(U:xs.length<bZ):Sh (Z0b ds a xs n) (lH ds a xs n) (ds.set a.toNat n):=by
 have L:=h.1
 unfold Z0b
 simp only [Zk,Option.bind_some]
 by_cases g1:0≤a∧a<(ds.length:Int)
 ·obtain ⟨j,rfl⟩:=Int.eq_ofNat_of_zero_le g1.1
  have u:j<ds.length:=by omega
  have hm:=h.2.mem (bF u)
  rw [if_pos (fun _=>g1)]
  by_cases c:(xs.length:Int)=ix ds (j:Int)∧1≤n
  ·obtain ⟨G,Z⟩:=c
   rw [if_neg (by simp; omega)]
   by_cases g5:∀ x∈xs,0≤x∧x<n
   ·obtain ⟨r,F,D⟩:=hW (f:=fun s:List pair×Int=>Z0b_L1 xs n s.1 s.2) (fun k s=>s.2=(k:Int)∧s.1.length=k) xs.length (Post:=fun r=>∃ l,r=.inr l∧l.length≤4096)
     (fun k s B g=>by
      obtain ⟨y,i⟩:=s
      obtain ⟨b,e⟩:=g
      simp only at b e
      subst b
      have:=g5 _ (bF B)
      simp only [Z0b_L1]
      rw [if_pos (by simp; omega),if_pos (by omega),if_neg (by simp; omega),if_pos (by simp; omega),bX (by unfold bZ; omega)]
      exact ⟨_,rfl,rfl,by simp [e]⟩)
     (fun s g=>by
      obtain ⟨y,i⟩:=s
      obtain ⟨b,e⟩:=g
      simp only at b e
      subst b
      simp only [Z0b_L1]
      rw [if_neg (by simp)]
      exact ⟨_,rfl,y,rfl,by omega⟩) (s:=([],0)) ⟨rfl,rfl⟩
    obtain ⟨l,rfl,I⟩:=D
    rw [F]
    simp only [Option.bind_some,Z0b_J1]
    rw [nJ L u]
    simp only [Option.bind_some]
    rw [gS (by simp [bZ]; omega)]
    by_cases g6:dZ (ds.set j n)
    ·have O:lH ds (j:Int) xs n:=⟨g1.1,g1.2,G,g5,by simpa using g6⟩
     obtain ⟨ps,E⟩:=nK h u n I
     simp only [decide_eq_true g6,Option.bind_some,Bool.not_true,Bool.false_eq_true,if_false]
     rw [E]
     exact ⟨_,ps,by rw [decide_eq_true O]; rfl,fun _=>by simp⟩
    ·have no:¬ lH ds (j:Int) xs n:=fun q=>g6 (by simpa using q.2.2.2.2)
     simp only [decide_eq_false g6,Option.bind_some,Bool.not_false,if_true]
     exact ⟨_,_,by rw [decide_eq_false no],fun q=>absurd q no⟩
   ·have no:¬ lH ds (j:Int) xs n:=fun q=>g5 q.2.2.2.1
    obtain ⟨m,T,Y,M⟩:=l6 (fun _=>inferInstance) g5
    obtain ⟨r,F,D⟩:=hW (f:=fun s:List pair×Int=>Z0b_L1 xs n s.1 s.2) (fun k s=>s.2=(k:Int)∧s.1.length=k) m (Post:=fun r=>r=.inl ([],[],false))
     (fun k s B g=>by
      obtain ⟨y,i⟩:=s
      obtain ⟨b,e⟩:=g
      simp only at b e
      subst b
      have:=M k B
      simp only [Z0b_L1]
      rw [if_pos (by simp; omega),if_pos (by omega),if_neg (by simp; omega),if_pos (by simp; omega),bX (by unfold bZ; omega)]
      exact ⟨_,rfl,rfl,by simp [e]⟩)
     (fun s g=>by
      obtain ⟨y,i⟩:=s
      obtain ⟨b,e⟩:=g
      simp only at b e
      subst b
      simp only [Z0b_L1]
      rw [if_pos (by simp; omega),if_pos (by omega),if_pos (by simp only [Bool.or_eq_true,decide_eq_true_eq]; omega)]
      exact ⟨_,rfl,rfl⟩) (s:=([],0)) ⟨rfl,rfl⟩
    rw [F,D]
    exact ⟨_,_,by rw [decide_eq_false no]; rfl,fun q=>absurd q no⟩
  ·have no:¬ lH ds (j:Int) xs n:=fun q=>c ⟨q.2.2.1,by
    have:=q.2.2.2.2.2.1 n (List.mem_iff_getElem.2 ⟨j,by simpa using u,by simp⟩)
    exact this⟩
   rw [if_pos (by
    by_cases q:(xs.length:Int)=ix ds (j:Int)
    ·have:n<1:=by
      rcases Int.lt_or_le n 1 with z | z
      ·exact z
      ·exact absurd ⟨q,z⟩ c
     simp [this]
    ·simp [q])]
   exact ⟨_,_,by rw [decide_eq_false no],fun q=>absurd q no⟩
 ·have no:¬ lH ds a xs n:=fun q=>g1 ⟨q.1,q.2.1⟩
  have J:(decide (a≥0)&&decide (a<(ds.length:Int)))=false:=by simp; omega
  rw [J,if_pos (fun q=>by cases q),if_pos (by simp)]
  exact ⟨_,_,by rw [decide_eq_false no],fun q=>absurd q no⟩
theorem zK {ds:List Int}(h:dZ ds){a b f g:Int}:Sh (Zw ds a b f g) (mE ds a b f g) (ds.set a.toNat (jD ds a b f g)):=by
 have U:=h.1
 unfold Zw
 simp only [Zk,Option.bind_some]
 by_cases g1:0≤a∧a<(ds.length:Int)
 ·obtain ⟨j,rfl⟩:=Int.eq_ofNat_of_zero_le g1.1
  have m:j<ds.length:=by omega
  have hm:=h.2.mem (bF m)
  rw [if_neg (by simp; omega)]
  have lp:=eM [b,f,g] (fun s:Int=>Zw_L1 b f g s) (fun i=>i) (fun x=>!(decide (x<0)||decide (x>4096))) (.inl (([]:List Int),([]:List pair),false)) (.inr ())
   (fun k J=>by
    simp only [List.length_cons,List.length_nil] at J
    simp only [Zw_L1]
    rw [if_pos (by simp; omega),if_pos (by simp; omega),bX (by unfold bZ; omega)]
    cases (decide (ix [b,f,g] (k:Int)<0)||decide (ix [b,f,g] (k:Int)>4096))<;>rfl)
   (by simp only [Zw_L1]; rw [if_neg (by simp)])
  rw [lp]
  by_cases c:0≤b∧b≤4096∧0≤f∧f≤4096∧0≤g∧g≤4096
  ·obtain ⟨c1,T,M,G,B,E⟩:=c
   have u:([b,f,g].all fun x=>!(decide (x<0)||decide (x>4096)))=true:=by
    rw [List.all_eq_true]
    intro x I
    have:x=b∨x=f∨x=g:=by simpa using I
    simp; rcases this with rfl | rfl | rfl<;>omega
   rw [u]
   simp only [if_true,Option.bind_some,Zw_J1]
   have k0:0≤(ix ds (j:Int) - 1)*g:=Int.mul_nonneg (by omega) B
   have k1:=Int.mul_le_mul (show ix ds (j:Int) - 1≤4096 by omega) E B (show (0:Int)≤4096 by omega)
   have e:aH (aH (aH (b+ix ds (j:Int))+aH (aH (ix ds (j:Int) - 1)*g))+f)=jD ds (j:Int) b f g:=by
    rw [bA (n:=b+ix ds (j:Int)) (by omega) (by omega),bA (n:=ix ds (j:Int) - 1) (by omega) (by omega),bA (n:=(ix ds (j:Int) - 1)*g) (by omega) (by omega),bA (n:=b+ix ds (j:Int)+(ix ds (j:Int) - 1)*g) (by omega) (by omega),bA (by omega) (by omega)]
    rfl
   rw [if_pos g1,e,nJ U m]
   simp only [Option.bind_some]
   rw [gS (by simp [bZ]; omega)]
   by_cases g6:dZ (ds.set j (jD ds (j:Int) b f g))
   ·have Z:mE ds (j:Int) b f g:=⟨g1.1,g1.2,c1,T,M,G,B,E,by simpa using g6⟩
    simp only [decide_eq_true g6,Option.bind_some,Bool.not_true,Bool.false_eq_true,if_false]
    obtain ⟨l,Y,L⟩:=ly (f:=fun s:List pair×Int=>Zw_L2 ds (j:Int) b g s.1 s.2) (ix ds (j:Int)).toNat 1 8796093022208 (Post:=fun r=>r.length≤4096) []
     (fun q hq v F=>by
      simp only [Zw_L2]
      rw [if_pos (by simp; omega),if_pos (by simp; omega),bX (by unfold bZ; omega)]
      exact ⟨_,rfl,by simp⟩)
     (fun v F=>by
      simp only [Zw_L2]
      simp at F
      rw [if_neg (by simp; omega)]
      exact ⟨v,rfl,by omega⟩) (by simp; omega)
    rw [Y]
    simp only [Option.bind_some,Zw_J2]
    obtain ⟨ps,D⟩:=nK h m (jD ds (j:Int) b f g) L
    rw [e,D]
    exact ⟨_,ps,by rw [decide_eq_true Z]; rfl,fun _=>by simp⟩
   ·have no:¬ mE ds (j:Int) b f g:=fun q=>g6 (by simpa using q.2.2.2.2.2.2.2.2)
    simp only [decide_eq_false g6,Option.bind_some,Bool.not_false,if_true]
    exact ⟨_,_,by rw [decide_eq_false no],fun q=>absurd q no⟩
  ·have no:¬ mE ds (j:Int) b f g:=fun q=>c ⟨q.2.2.1,q.2.2.2.1,q.2.2.2.2.1,q.2.2.2.2.2.1,q.2.2.2.2.2.2.1,q.2.2.2.2.2.2.2.1⟩
   have u:([b,f,g].all fun x=>!(decide (x<0)||decide (x>4096)))=false:=by
    simp only [List.all_cons,List.all_nil,Bool.and_true,Bool.and_eq_false_iff,Bool.not_eq_false',Bool.or_eq_true,decide_eq_true_eq]
    omega
   rw [u]
   exact ⟨_,_,by rw [decide_eq_false no]; rfl,fun q=>absurd q no⟩
 ·have no:¬ mE ds a b f g:=fun q=>g1 ⟨q.1,q.2.1⟩
  have O:(decide (a≥0)&&decide (a<(ds.length:Int)))=false:=by simp; omega
  rw [O,if_pos (by simp)]
  exact ⟨_,_,by rw [decide_eq_false no],fun q=>absurd q no⟩
theorem x7 {ds:List Int}(h:dZ ds){a st n:Int}:Sh (Z4 ds a st n) (lK ds a st n) ((ds.set a.toNat n).take (ds.length - 1)):=by
 have hn:=h.1
 have w1:aH ((ds.length:Int) - 1)=(ds.length:Int) - 1:=bA (by omega) (by omega)
 unfold Z4
 simp only [Zk,Option.bind_some,w1]
 by_cases c:(0≤a∧a<(ds.length:Int))∧a≠(ds.length:Int) - 1∧1≤st∧1≤n∧n≤4096
 ·obtain ⟨g1,T,c2,c3,c4⟩:=c
  obtain ⟨j,rfl⟩:=Int.eq_ofNat_of_zero_le g1.1
  have Y:j<ds.length:=by omega
  obtain ⟨l,D⟩:∃ l,l=ds.length - 1:=⟨_,rfl⟩
  have g:(ds.length:Int) - 1=(l:Int):=by omega
  have J:aH (l:Int)=(l:Int):=bA (by omega) (by omega)
  have hm:=h.2.mem (bF Y)
  have a0:=h.2.mem (bF (xs:=ds) (k:=l) (by omega))
  have b0:(decide ((j:Int)≥0)&&decide ((j:Int)<(ds.length:Int)))=true:=by simp; omega
  rw [g] at T ⊢
  have I:((((!(decide ((j:Int)≥0)&&decide ((j:Int)<(ds.length:Int)))||((j:Int)==(l:Int)))||decide (st<1))||decide (n<1))||decide (n>4096))=false:=by rw [b0]; simp; omega
  have F:lK ds (j:Int) st n↔0≤(j:Int)∧(j:Int)<(ds.length:Int)∧(j:Int)≠(l:Int)∧1≤st∧1≤n∧n≤4096∧ix ds (l:Int)≤n∧(n - ix ds (l:Int)) / st+1=ix ds (j:Int)∧dZ ((ds.set j n).take l):=by
   unfold lK
   rw [g,← D,Int.toNat_natCast]
  rw [I]
  rw [if_pos (fun _=>by omega),if_pos (fun _=>g1),if_pos (fun _=>by omega),if_pos (fun _=>by omega)]
  by_cases c5:ix ds (l:Int)≤n
  ·have q0:0≤(n - ix ds (l:Int)) / st:=Int.ediv_nonneg (by omega) (by omega)
   have q1:(n - ix ds (l:Int)) / st≤n - ix ds (l:Int):=Int.ediv_le_self _ (by omega)
   have e:aH (aH ((aH (n - ix ds (l:Int))).tdiv st)+1)=(n - ix ds (l:Int)) / st+1:=by
    rw [bA (n:=n - ix ds (l:Int)) (by omega) (by omega),Int.tdiv_eq_ediv_of_nonneg (by omega),bA (n:=(n - ix ds (l:Int)) / st) (by omega) (by omega),bA (by omega) (by omega)]
   rw [e]
   by_cases c6:(n - ix ds (l:Int)) / st+1=ix ds (j:Int)
   ·rw [if_neg (by simp [c6]; omega),nJ hn Y]
    simp only [Option.bind_some,Int.toNat_natCast]
    rw [if_pos (by simp; omega),kN,gS (by simp [bZ]; omega)]
    by_cases g5:dZ ((ds.set j n).take l)
    ·simp only [decide_eq_true g5,Option.bind_some,Bool.not_true,Bool.false_eq_true,if_false]
     have ok:lK ds (j:Int) st n:=F.2 ⟨g1.1,g1.2,T,c2,c3,c4,c5,c6,g5⟩
     rw [if_pos g1]
     have U:∀ s:Int,∃ ps,Z4_J1 ds (j:Int) n (ds.set j n) s=some ((ds.set j n).take l,ps,true):=by
      intro s
      have b:dZ (ds.take l):=⟨by simp; omega,h.2.take l⟩
      simp only [Z4_J1,g,J]
      rw [if_pos (by omega),kN,qn b (by simp; omega)]
      simp only [Option.bind_some]
      obtain ⟨A,O⟩:∃ A:Nat,(A:Int)=pr ((ds.take l).take j):=⟨(pr ((ds.take l).take j)).toNat,by have:=(b.2.take j).pos; omega⟩
      obtain ⟨L,hL⟩:∃ L:Nat,(L:Int)=ix (ds.take l) (j:Int):=⟨(ix (ds.take l) (j:Int)).toNat,by have:=b.2.mem (bF (xs:=ds.take l) (k:=j) (by simp; omega)); omega⟩
      obtain ⟨B,hB⟩:∃ B:Nat,(B:Int)=pr ((ds.take l).drop (j+1)):=⟨(pr ((ds.take l).drop (j+1))).toNat,by have:=(b.2.drop (j+1)).pos; omega⟩
      obtain ⟨Z,hZ⟩:∃ Z:Nat,(Z:Int)=ix ds (l:Int):=⟨(ix ds (l:Int)).toNat,by omega⟩
      have a1:=(b.2.take j).2
      have I:=(b.2.drop (j+1)).2
      have l1:=b.2.mem (bF (xs:=ds.take l) (k:=j) (by simp; omega))
      rw [← O] at a1 ⊢
      rw [← hB] at I ⊢
      rw [← hL] at l1 ⊢
      have m1:B*(Z*1)≤4096*4096:=Nat.mul_le_mul (by omega) (by omega)
      have m2:L*(B*(Z*1))≤4096*(4096*4096):=Nat.mul_le_mul (by omega) m1
      have m3:A*(L*(B*(Z*1)))≤64*(4096*(4096*4096))∨True:=.inr trivial
      -- the product of all four is the size of the bT
      have G:pr (ds.take l)=pr ((ds.take l).take j)*(ix (ds.take l) (j:Int)*pr ((ds.take l).drop (j+1))):=by
       rw [gE (ds.take l) j]
       have:(ds.take l).drop j=ix (ds.take l) (j:Int)::(ds.take l).drop (j+1):=by rw [List.drop_eq_getElem_cons (by simp; omega),bU (by simp; omega)]
       rw [this]; rfl
      rw [← O,← hL,← hB] at G
      have h4:A*(L*B)≤4096:=by
       have:=b.2.2
       rw [G] at this
       have M:((A*(L*B):Nat):Int)=(A:Int)*((L:Int)*(B:Int)):=by simp
       omega
      have m4:A*(L*(B*(Z*1)))≤4096*4096:=by
       have e5:A*(L*(B*(Z*1)))=A*(L*B)*Z:=by rw [Nat.mul_one,Nat.mul_assoc,Nat.mul_assoc]
       rw [e5]
       exact Nat.mul_le_mul h4 (by omega)
      obtain ⟨r,e1,_⟩:=ly (f:=fun q:List pair×Int=>Z4_L1 ds n s ((A:Int),(L:Int),(B:Int)) q.1 q.2) A (L*(B*(Z*1))) 8796093022208 (Post:=fun _=>True) []
       (fun i hi y hy=>by
        simp only [Z4_L1,Z4_J15]
        rw [if_pos (by simp; omega),bX (by unfold bZ; omega)]
        obtain ⟨r2,e2,p2⟩:=ly (f:=fun q:List pair×Int=>Z4_L2 ds n s ((A:Int),(L:Int),(B:Int)) (i:Int) q.1 q.2) L (B*(Z*1)) 8796093022208 (Post:=fun r=>r.length≤y.length+L*(B*(Z*1))) y
         (fun k hk z hz=>by
          simp only [Z4_L2,Z4_J14]
          rw [if_pos (by simp; omega),bX (by unfold bZ; omega)]
          obtain ⟨r3,e3,p3⟩:=ly (f:=fun q:List pair×Int=>Z4_L3 ds n s ((A:Int),(L:Int),(B:Int)) (i:Int) (k:Int) q.1 q.2) B (Z*1) 8796093022208 (Post:=fun r=>r.length≤z.length+B*(Z*1)) z
           (fun p hp u hu=>by
            simp only [Z4_L3,Z4_J13]
            rw [if_pos (by simp; omega),bX (by unfold bZ; omega)]
            obtain ⟨r4,M,p4⟩:=ly (f:=fun q:List pair×Int=>Z4_L4 ds n s ((A:Int),(L:Int),(B:Int)) (i:Int) (k:Int) (p:Int) q.1 q.2) Z 1 8796093022208 (Post:=fun r=>r.length≤u.length+Z*1) u
             (fun o ho v m=>by
              simp only [Z4_L4,g,J]
              rw [if_pos (by omega),if_pos (by simp; omega),if_pos (by simp; omega),bX (by unfold bZ; omega)]
              exact ⟨_,rfl,by simp⟩)
             (fun v m=>by
              simp only [Z4_L4,g,J]
              rw [if_pos (by omega),if_neg (by simp; omega)]
              exact ⟨v,rfl,m⟩) (by omega)
            rw [M]
            exact ⟨_,rfl,p4⟩)
           (fun v m=>by simp only [Z4_L3]; rw [if_neg (by simp)]; exact ⟨v,rfl,m⟩) hz
          rw [e3]
          exact ⟨_,rfl,p3⟩)
         (fun v m=>by simp only [Z4_L2]; rw [if_neg (by simp)]; exact ⟨v,rfl,m⟩) hy
        rw [e2]
        exact ⟨_,rfl,p2⟩)
       (fun v m=>by simp only [Z4_L1]; rw [if_neg (by simp)]; exact ⟨v,rfl,trivial⟩) (by simp only [List.length_nil]; omega)
      rw [e1]
      simp only [Option.bind_some,Z4_J16,g,J]
      rw [kN]
      exact ⟨r,rfl⟩
     by_cases g7:ix ds (j:Int)=1
     ·rw [if_pos (by simp [g7])]
      obtain ⟨ps,E⟩:=U 0
      rw [E]
      exact ⟨_,ps,by rw [decide_eq_true ok],fun _=>by rw [← D]⟩
     ·rw [if_neg (by simp [g7])]
      obtain ⟨ps,E⟩:=U st
      rw [E]
      exact ⟨_,ps,by rw [decide_eq_true ok],fun _=>by rw [← D]⟩
    ·simp only [decide_eq_false g5,Option.bind_some,Bool.not_false,if_true]
     exact ⟨_,_,by rw [decide_eq_false (fun q=>g5 (F.1 q).2.2.2.2.2.2.2.2)],fun q=>absurd (F.1 q).2.2.2.2.2.2.2.2 g5⟩
   ·rw [if_pos (by simp only [Bool.or_eq_true,bne_iff_ne]; exact .inr fun z=>c6 z.symm)]
    exact ⟨_,_,by rw [decide_eq_false (fun q=>c6 (F.1 q).2.2.2.2.2.2.2.1)],fun q=>absurd (F.1 q).2.2.2.2.2.2.2.1 c6⟩
  ·rw [if_pos (by simp only [Bool.or_eq_true,Bool.false_or,decide_eq_true_eq]; exact .inl (by omega))]
   exact ⟨_,_,by rw [decide_eq_false (fun q=>c5 (F.1 q).2.2.2.2.2.2.1)],fun q=>absurd (F.1 q).2.2.2.2.2.2.1 c5⟩
 ·have no:¬ lK ds a st n:=fun q=>c ⟨⟨q.1,q.2.1⟩,q.2.2.1,q.2.2.2.1,q.2.2.2.2.1,q.2.2.2.2.2.1⟩
  have I:((((!(decide (a≥0)&&decide (a<(ds.length:Int)))||(a==(ds.length:Int) - 1))||decide (st<1))||decide (n<1))||decide (n>4096))=true:=by
   simp only [Bool.or_eq_true,Bool.not_eq_true',decide_eq_true_eq,Bool.and_eq_false_iff,decide_eq_false_iff_not,beq_iff_eq]
   omega
  rw [I,if_pos (fun q=>by simp at q),if_pos (fun q=>by simp at q),if_pos (fun q=>by simp at q),if_pos (fun q=>by simp at q),if_pos (by simp)]
  exact ⟨_,_,by rw [decide_eq_false no],fun q=>absurd q no⟩
theorem kO (n:Node)(u:aM)(bd b a bx:Bool)(h1:Z6 gP u=some bd)(h2:Z6 eP u=some b)(e:Z6 k8 u=some a)(g:Z6 oi u=some bx) :
  Z1v n u=some ((((bd||((n.Dims.length:Int)==(0:Int)))&&(b||((n.Ints.length:Int)==(0:Int))))&&(a||(n.Form==([]:aM))))&&(bx||((n.Data.length:Int)==(0:Int)))):=by
 unfold Z1v
 rw [h1,h2,e,g]
 simp only [Option.bind_some]
 generalize ((n.Dims.length:Int)==(0:Int))=x1
 generalize ((n.Ints.length:Int)==(0:Int))=x2
 generalize (n.Form==([]:aM))=x3
 generalize ((n.Data.length:Int)==(0:Int))=x4
 cases bd<;>cases x1<;>cases b<;>cases x2<;>cases a<;>cases x3<;>cases bx<;>cases x4<;>rfl
theorem sX:Z6 gP []=some false:=by kernel_rfl
theorem sY:Z6 eP []=some false:=by kernel_rfl
theorem sZ:Z6 k8 []=some false:=by kernel_rfl
theorem t2:Z6 oi []=some false:=by kernel_rfl
theorem pi:Z6 gP gP=some true:=by kernel_rfl
theorem pj:Z6 eP gP=some false:=by kernel_rfl
theorem pl:Z6 k8 gP=some false:=by kernel_rfl
theorem pm:Z6 oi gP=some false:=by kernel_rfl
theorem kn:Z6 gP eP=some false:=by kernel_rfl
theorem ko:Z6 eP eP=some true:=by kernel_rfl
theorem kp:Z6 k8 eP=some false:=by kernel_rfl
theorem kq:Z6 oi eP=some false:=by kernel_rfl
theorem x8:Z6 gP oh=some true:=by kernel_rfl
theorem x9:Z6 eP oh=some false:=by kernel_rfl
theorem xa:Z6 k8 oh=some false:=by kernel_rfl
theorem xb:Z6 oi oh=some true:=by kernel_rfl
theorem xc:Z6 gP k8=some false:=by kernel_rfl
theorem xd:Z6 eP k8=some false:=by kernel_rfl
theorem xe:Z6 k8 k8=some true:=by kernel_rfl
theorem xf:Z6 oi k8=some false:=by kernel_rfl
def nL (n:Node)(m:Nat):Prop:=∀ a∈n.Args,0≤a∧a<(m:Int)
instance (n:Node)(m:Nat):Decidable (nL n m):=by unfold nL; infer_instance
theorem xg {n:Node}{b:List (List Int)}(j:b.length≤4096)(l:n.Args.length≤6):aR (fun s:List (List Int)×Int=>Zd_L1 n b s.1 s.2) ([],0)=some (if nL n b.length then .inr (n.Args.map fun a=>ix b a) else .inl ([],false)):=by
 have e:∀ k:Nat,k<n.Args.length→(0≤ix n.Args (k:Int)∧ix n.Args (k:Int)<(b.length:Int))→(fun s:List (List Int)×Int=>Zd_L1 n b s.1 s.2) ((n.Args.take k).map fun a=>ix b a,(k:Int))=some (.inl ((n.Args.take (k+1)).map fun a=>ix b a,((k+1:Nat):Int))):=by
  intro k g hw
  simp only [Zd_L1]
  rw [if_pos (by simp; omega),if_pos (by omega),if_neg (by simp; omega),if_pos hw,if_pos (by simp; omega),bX (by unfold bZ; omega),List.take_succ_eq_append_getElem g,List.map_append,bU g]
  rfl
 by_cases c:nL n b.length
 ·rw [if_pos c]
  refine eT (fun k=>((n.Args.take k).map fun a=>ix b a,(k:Int))) n.Args.length (fun k g=>e k g (c _ (bF g))) ?_ rfl
  simp only [Zd_L1]
  rw [if_neg (by simp),List.take_length]
 ·rw [if_neg c]
  obtain ⟨m,i,q,h⟩:=l6 (p:=fun a=>0≤a∧a<(b.length:Int)) (fun _=>inferInstance) c
  refine eT (fun k=>((n.Args.take k).map fun a=>ix b a,(k:Int))) m (fun k g=>e k (by omega) (h k g)) ?_ rfl
  simp only [Zd_L1]
  rw [if_pos (by simp; omega),if_pos (by omega),if_pos (by simp only [Bool.or_eq_true,decide_eq_true_eq]; omega)]
theorem xh {n:Node}{b:List (List Int)}(j:b.length≤4096){kd:kindOfR}{u:aM}{e:Bool}(i:Zv n.Op=some kd)(h:Nat.beq kd.t 0=false)(l:fM kd=some u)(m:Z1v n u=some e) :
  Zd n b=if e=true∧n.Args.length≤6 then (if nL n b.length then bN kd n (n.Args.map fun a=>ix b a) else some ([],false)) else some ([],false):=by
 unfold Zd
 rw [i]
 simp only [Option.bind_some,h,bP,Bool.not_false,cond_true,l,m,Bool.false_or]
 by_cases c:e=true∧n.Args.length≤6
 ·obtain ⟨rfl,g⟩:=c
  rw [if_neg (by simp; omega),if_pos ⟨rfl,g⟩,xg j g]
  by_cases w:nL n b.length
  ·rw [if_pos w,if_pos w]
   simp only [Option.bind_some,Zd_J1]
   cases bN kd n (n.Args.map fun a=>ix b a)<;>rfl
  ·rw [if_neg w,if_neg w]
   rfl
 ·rw [if_neg c,if_pos]
  cases e
  ·rfl
  ·have:¬ n.Args.length≤6:=fun z=>c ⟨rfl,z⟩
   simp; omega
def FM (n:Node)(lo b:Int)(a:Bool)(ui uj:Int):Prop:=lo≤(n.Args.length:Int)∧(n.Args.length:Int)≤b∧(a=true∨n.Dims=[])∧(n.Op=11∨n.Form=[])∧(n.Op=2∨n.Data=[])∧ui≤(n.Ints.length:Int)∧(n.Ints.length:Int)≤uj
instance (n:Node)(lo hi:Int)(ud:Bool)(ui uj:Int):Decidable (FM n lo hi ud ui uj):=by unfold FM; infer_instance
theorem gG {n:Node}{lo b ui uj:Int}{a:Bool}(h1:1≤n.Op)(h2:n.Op≤19)(j:Z2y n.Op=some (lo,b))(h:Z38 n.Op=some a)(e:Z1b n.Op=some ui)(g:uj=if n.Op=16∨n.Op=17 then ui+4096 else ui)(r:0≤ui∧ui≤100) :
  Z17 n=some (decide (FM n lo b a ui uj)):=by
 unfold Z17
 rw [if_neg (by simp; omega),j]
 simp only [Option.bind_some]
 by_cases c1:lo≤(n.Args.length:Int)∧(n.Args.length:Int)≤b
 ·rw [if_neg (by simp; omega),h]
  simp only [Option.bind_some]
  by_cases c2:(a=true∨n.Dims=[])∧(n.Op=11∨n.Form=[])∧(n.Op=2∨n.Data=[])
  ·obtain ⟨d1,d2,d3⟩:=c2
   have l:((!a)&&decide ((n.Dims.length:Int)>0))=false:=by
    rcases d1 with d | d<;>simp [d]
   have m:((n.Op != 11)&&(!(n.Form==([]:aM))))=false:=by
    rcases d2 with d | d<;>simp [d]
   have i:((n.Op != 2)&&decide ((n.Data.length:Int)>0))=false:=by
    rcases d3 with d | d<;>simp [d]
   rw [l,m,i,if_neg (by simp),e]
   simp only [Option.bind_some]
   by_cases c3:n.Op=16∨n.Op=17
   ·rw [if_pos (by simpa using c3),bA (by omega) (by omega)]
    rw [if_pos c3] at g
    congr 1
    rw [Bool.eq_iff_iff]
    simp only [Bool.and_eq_true,decide_eq_true_eq]
    unfold FM
    exact ⟨fun q=>⟨c1.1,c1.2,d1,d2,d3,q.1,by omega⟩,fun q=>⟨q.2.2.2.2.2.1,by have:=q.2.2.2.2.2.2; omega⟩⟩
   ·rw [if_neg (by simpa using c3)]
    rw [if_neg c3] at g
    congr 1
    rw [Bool.eq_iff_iff]
    simp only [beq_iff_eq,decide_eq_true_eq]
    unfold FM
    exact ⟨fun q=>⟨c1.1,c1.2,d1,d2,d3,by omega,by omega⟩,fun q=>by have:=q.2.2.2.2.2.1; have:=q.2.2.2.2.2.2; omega⟩
  ·have no:¬ FM n lo b a ui uj:=fun q=>c2 ⟨q.2.2.1,q.2.2.2.1,q.2.2.2.2.1⟩
   rw [decide_eq_false no,if_pos]
   refine Classical.byContradiction fun z=>c2 ?_
   simp only [Bool.or_eq_true,Bool.and_eq_true,Bool.not_eq_true',decide_eq_true_eq,bne_iff_ne,beq_eq_false_iff_ne,not_or,not_and] at z
   refine ⟨?_,?_,?_⟩
   ·cases a
    ·refine .inr (List.eq_nil_of_length_eq_zero ?_); have:=z.1.1 rfl; omega
    ·exact .inl rfl
   ·by_cases q:n.Op=11
    ·exact .inl q
    ·exact .inr (Classical.not_not.1 (z.1.2 q))
   ·by_cases q:n.Op=2
    ·exact .inl q
    ·refine .inr (List.eq_nil_of_length_eq_zero ?_); have:=z.2 q; omega
 ·have no:¬ FM n lo b a ui uj:=fun q=>c1 ⟨q.1,q.2.1⟩
  rw [decide_eq_false no,if_pos (by simp only [Bool.or_eq_true,decide_eq_true_eq]; omega)]
noncomputable def Do (n:Node)(b:List Tensor):Option Tensor:=if n.Op=1 then Z0q n.Dims 0 else Z1 n (n.Args.map fun a=>ix b a)
def oH (n:Node)(a:List Tensor)(o:Option (List Int×Bool)):Prop :=
 (∃ t,o=some (t.Dims,true)∧Z17 n=some true∧nL n a.length∧Do n a=some t∧TT t) ∨
 (∃ ds,o=some (ds,false)∧(Z17 n=some false∨Z17 n=some true∧(nL n a.length→Do n a=some ⟨[],[]⟩)))
structure Caps (n:Node)(out:List Tensor):Prop where
 a:n.Args.length<bZ
 d:n.Dims.length<bZ
 i:n.Ints.length<bZ
 x:n.Data.length<bZ
 f:n.Form.length≤1048576
 o:out.length≤200
 t:∀ t∈out,TT t
theorem nd {b:List Tensor}{a:Int}(g:0≤a)(h1:a<(b.length:Int)):ix (b.map Tensor.Dims) a=(ix b a).Dims∧ix b a∈b:=by
 obtain ⟨k,rfl⟩:=Int.eq_ofNat_of_zero_le g
 have e:k<b.length:=by omega
 rw [bU (by simpa using e),bU e]
 exact ⟨by simp,List.getElem_mem e⟩
theorem mF {n:Node}{b:List Tensor}(s:Caps n b){kd:kindOfR}{u:aM}{g fb:Bool}(F:Zv n.Op=some kd)(E:Nat.beq kd.t 0=false)(m:fM kd=some u)(G:Z1v n u=some g)(e:Z17 n=some fb)
  (h1:fb=true→g=true∧n.Args.length≤6)
  (h2:g=true→nL n b.length→fb=false→∃ ds,bN kd n ((n.Args.map fun a=>ix b a).map Tensor.Dims)=some (ds,false))
  (r:fb=true→nL n b.length→∃ t,(bN kd n ((n.Args.map fun a=>ix b a).map Tensor.Dims)=some (t.Dims,true)∧Do n b=some t∧TT t)∨∃ ds,bN kd n ((n.Args.map fun a=>ix b a).map Tensor.Dims)=some (ds,false)∧Do n b=some ⟨[],[]⟩) :
  oH n b (Zd n (b.map Tensor.Dims)):=by
 have J:=s.o
 rw [xh (by simp; omega) F E m G]
 have j:nL n b.length→(n.Args.map fun a=>ix (b.map Tensor.Dims) a)=(n.Args.map fun a=>ix b a).map Tensor.Dims:=by
  intro w
  rw [List.map_map]
  exact List.map_congr_left fun a l=>(nd (w a l).1 (w a l).2).1
 have I:(b.map Tensor.Dims).length=b.length:=by simp
 rw [I]
 cases fb with
 | true =>
  obtain ⟨p1,D⟩:=h1 rfl
  rw [if_pos ⟨p1,D⟩]
  by_cases w:nL n b.length
  ·rw [if_pos w,j w]
   obtain ⟨t,q⟩:=r rfl w
   rcases q with ⟨h,i,B⟩|⟨ds,h,i⟩
   ·exact .inl ⟨t,h,e,w,i,B⟩
   ·exact .inr ⟨ds,h,.inr ⟨e,fun _=>i⟩⟩
  ·rw [if_neg w]
   exact .inr ⟨[],rfl,.inr ⟨e,fun z=>absurd z w⟩⟩
 | false =>
  by_cases c:g=true∧n.Args.length≤6
  ·rw [if_pos c]
   by_cases w:nL n b.length
   ·rw [if_pos w,j w]
    obtain ⟨ds,q⟩:=h2 c.1 w rfl
    exact .inr ⟨ds,q,.inl e⟩
   ·rw [if_neg w]
    exact .inr ⟨[],rfl,.inl e⟩
  ·rw [if_neg c]
   exact .inr ⟨[],rfl,.inl e⟩
theorem sh2 (b i j s n args):bN ⟨2,b,i,j,s⟩ n args=Z23 ⟨i⟩ n args:=rfl
theorem l7 {n:Node}{b:Bool}{args:List (List Int)}(g:n.Dims.length<bZ)(h:n.Data.length<bZ):Z1k ⟨b⟩ n args=some (if args=[]∧dZ n.Dims∧(b=true→TOk n.Dims n.Data) then (n.Dims,true) else ([],false)):=by
 unfold Z1k
 by_cases c1:args=[]
 ·subst c1
  have a:(((([]:List (List Int)).length:Int)) != 0)=false:=rfl
  simp only [a,bP,Bool.not_false,cond_true,Bool.false_or]
  rw [gS g]
  simp only [Option.bind_some]
  by_cases c2:dZ n.Dims
  ·simp only [decide_eq_true c2,Bool.not_true,Bool.not_false,Bool.true_and,Bool.false_or]
   cases b with
   | false=>simp [c2]
   | true =>
    rw [cond_true,wL (t:=⟨n.Dims,n.Data⟩) g h]
    by_cases c3:TOk n.Dims n.Data
    ·simp [c2,c3]
    ·simp [c2,c3]
  ·simp [decide_eq_false c2,c2]
 ·have a:((args.length:Int) != 0)=true:=by
   have:args.length≠0:=fun e=>c1 (List.eq_nil_of_length_eq_zero e)
   simp; omega
  simp only [a,bP,Bool.not_true,Bool.not_false,cond_false,Bool.true_or,Option.bind_some,Bool.false_and]
  simp [c1]
theorem kP {α:Type}(xs:List α):((xs.length:Int)=0)↔xs=[]:=by
 exact ⟨fun h=>List.eq_nil_of_length_eq_zero (by omega),fun h=>by simp [h]⟩
theorem t6 {n:Node}{g:List Tensor}(b:Caps n g)(a:n.Op=1):oH n g (Zd n (g.map Tensor.Dims)):=by
 refine mF b (kd:=⟨1,false,0,0,[]⟩) (u:=gP) (fb:=decide (FM n 0 0 true 0 0)) (by rw [a]; rfl) rfl rfl (kO n gP true false false false pi pj pl pm) (gG (by omega) (by omega) (by rw [a]; rfl) (by rw [a]; rfl) (by rw [a]; rfl) (by rw [a]; rfl) ⟨by omega,by omega⟩) ?_ ?_ ?_
 ·intro h
  obtain ⟨f1,D,s,j,l,J,m⟩:=of_decide_eq_true h
  have E:n.Form=[]:=j.resolve_left (by omega)
  have G:n.Data=[]:=l.resolve_left (by omega)
  have F:n.Ints=[]:=List.eq_nil_of_length_eq_zero (by omega)
  exact ⟨by rw [E,G,F]; rfl,by omega⟩
 ·intro i hw h
  show ∃ ds,Z1k ⟨false⟩ n _=_
  rw [l7 b.d b.x]
  have:n.Args≠[]:=by
   intro e
   refine of_decide_eq_false h ?_
   simp only [Bool.true_or,Bool.false_or,Bool.true_and,Bool.and_eq_true,kP,beq_iff_eq] at i
   refine ⟨by rw [e]; decide,by rw [e]; decide,.inl rfl,.inr i.1.2,.inr i.2,by omega,by rw [i.1.1]; decide⟩
  rw [if_neg (by simp [this])]
  exact ⟨_,rfl⟩
 ·intro h hw
  obtain ⟨f1,D,s,j,l,J,m⟩:=of_decide_eq_true h
  have r:n.Args=[]:=List.eq_nil_of_length_eq_zero (by omega)
  obtain ⟨I,B⟩:=wY b.d
  by_cases c:dZ n.Dims
  ·obtain ⟨d,d1,d2⟩:=I c
   refine ⟨⟨n.Dims,d⟩,.inl ⟨?_,by unfold Do; rw [if_pos a]; exact d1,d2⟩⟩
   show Z1k ⟨false⟩ n _=_
   rw [l7 b.d b.x,if_pos ⟨by simp [r],c,by simp⟩]
  ·refine ⟨⟨[],[]⟩,.inr ⟨[],?_,by unfold Do; rw [if_pos a]; exact B c⟩⟩
   show Z1k ⟨false⟩ n _=_
   rw [l7 b.d b.x,if_neg (fun q=>c q.2.1)]
theorem t7 {n:Node}{h:List Tensor}(g:Caps n h)(a:n.Op=2):oH n h (Zd n (h.map Tensor.Dims)):=by
 refine mF g (kd:=⟨1,true,0,0,[]⟩) (u:=oh) (fb:=decide (FM n 0 0 true 0 0)) (by rw [a]; rfl) rfl rfl (kO n oh true false false true x8 x9 xa xb) (gG (by omega) (by omega) (by rw [a]; rfl) (by rw [a]; rfl) (by rw [a]; rfl) (by rw [a]; rfl) ⟨by omega,by omega⟩) ?_ ?_ ?_
 ·intro i
  obtain ⟨f1,D,B,m,G,I,r⟩:=of_decide_eq_true i
  have E:n.Form=[]:=m.resolve_left (by omega)
  have F:n.Ints=[]:=List.eq_nil_of_length_eq_zero (by omega)
  exact ⟨by rw [E,F]; rfl,by omega⟩
 ·intro j hw i
  show ∃ ds,Z1k ⟨true⟩ n _=_
  rw [l7 g.d g.x]
  have:n.Args≠[]:=by
   intro e
   refine of_decide_eq_false i ?_
   simp only [Bool.true_or,Bool.false_or,Bool.true_and,Bool.and_true,Bool.and_eq_true,kP,beq_iff_eq] at j
   refine ⟨by rw [e]; decide,by rw [e]; decide,.inl rfl,.inr j.2,.inl a,by omega,by rw [j.1]; decide⟩
  rw [if_neg (by simp [this])]
  exact ⟨_,rfl⟩
 ·intro i hw
  obtain ⟨f1,D,B,m,G,I,r⟩:=of_decide_eq_true i
  have s:n.Args=[]:=List.eq_nil_of_length_eq_zero (by omega)
  have b:Do n h=if TOk n.Dims n.Data then some ⟨n.Dims,n.Data⟩ else some ⟨[],[]⟩:=by
   unfold Do Z1
   rw [if_neg (by omega),if_pos (by simp [a]),sD (t:=⟨n.Dims,n.Data⟩) g.d g.x]
   simp only [Option.bind_some]
   by_cases c:TOk n.Dims n.Data
   ·have h1:=c.l
    have h2:=c.d.1
    have J:=c.d.2.2
    rw [decide_eq_true c,if_pos c,if_neg (by simp),hN (by omega),hN (by omega)]
    rfl
   ·rw [decide_eq_false c,if_neg c,if_pos (by simp)]
  by_cases c:TOk n.Dims n.Data
  ·rw [if_pos c] at b
   refine ⟨⟨n.Dims,n.Data⟩,.inl ⟨?_,b,c⟩⟩
   show Z1k ⟨true⟩ n _=_
   rw [l7 g.d g.x,if_pos ⟨by simp [s],c.d,fun _=>c⟩]
  ·rw [if_neg c] at b
   refine ⟨⟨[],[]⟩,.inr ⟨[],?_,b⟩⟩
   show Z1k ⟨true⟩ n _=_
   rw [l7 g.d g.x,if_neg (fun q=>c (q.2.2 rfl))]
theorem t8 {i:Int}{n:Node}{args:List (List Int)}(b:∀ a∈args,a.length<bZ):Z23 ⟨i⟩ n args=some (if args.length=2∧ix args 0=ix args 1 then (ix args 0,true) else ([],false)):=by
 unfold Z23
 by_cases c:args.length=2
 ·have e:((args.length:Int) != 2)=false:=by simp [c]
  rw [e,if_pos (fun _=>by omega),if_pos (fun _=>by omega)]
  simp only [bP,Bool.not_false,cond_true,Bool.false_or]
  have g:ix args (0:Int)∈args:=bF (k:=0) (by omega)
  rw [ut (b _ g)]
  simp only [Option.bind_some]
  by_cases q:ix args 0=ix args 1
  ·rw [decide_eq_true q,if_neg (by simp),if_pos (by omega),if_pos ⟨c,q⟩]
  ·rw [decide_eq_false q,if_pos (by simp),if_neg (fun z=>q z.2)]
 ·have e:((args.length:Int) != 2)=true:=by simp; omega
  rw [e,if_pos (fun z=>by cases z),if_pos (fun z=>by cases z)]
  simp only [bP,Bool.not_true,cond_false,Option.bind_some,Bool.true_or,if_true]
  rw [if_neg (fun z=>c z.1)]
theorem jQ {n:Node}{b:List Tensor}(h:Caps n b)(hw:nL n b.length):∀ t∈(n.Args.map fun a=>ix b a),TT t:=by
 intro t g
 obtain ⟨a,e,rfl⟩:=List.mem_map.1 g
 exact h.t _ (nd (hw a e).1 (hw a e).2).2
theorem uG {n:Node}{g:List Tensor}(G:Caps n g)(h3:3≤n.Op)(h5:n.Op≤5):oH n g (Zd n (g.map Tensor.Dims)):=by
 have i:n.Op=3∨n.Op=4∨n.Op=5:=by omega
 refine mF G (kd:=⟨2,false,n.Op - 2,0,[]⟩) (u:=[]) (fb:=decide (FM n 2 2 false 0 0)) (by rcases i with h | h | h<;>rw [h]<;>rfl) rfl rfl (kO n [] false false false false sX sY sZ t2) (gG (by omega) (by omega) (by rcases i with h | h | h<;>rw [h]<;>rfl) (by rcases i with h | h | h<;>rw [h]<;>rfl) (by rcases i with h | h | h<;>rw [h]<;>rfl) (by rw [if_neg (by omega)]) ⟨by omega,by omega⟩) ?_ ?_ ?_
 ·intro l
  obtain ⟨f1,Y,M,I,J,U,f7⟩:=of_decide_eq_true l
  have g3:n.Dims=[]:=M.resolve_left (by simp)
  have g4:n.Form=[]:=I.resolve_left (by omega)
  have g5:n.Data=[]:=J.resolve_left (by omega)
  have T:n.Ints=[]:=List.eq_nil_of_length_eq_zero (by omega)
  exact ⟨by rw [g3,g4,g5,T]; rfl,by omega⟩
 ·intro m hw l
  show ∃ ds,Z23 ⟨n.Op - 2⟩ n _=_
  have s:=jQ G hw
  rw [t8 (fun a F=>by
   obtain ⟨t,j,rfl⟩:=List.mem_map.1 F
   have:=km (s t j); unfold bZ; omega)]
  have:n.Args.length≠2:=by
   intro e
   refine of_decide_eq_false l ?_
   simp only [Bool.false_or,Bool.and_eq_true,kP,beq_iff_eq] at m
   refine ⟨by omega,by omega,.inr m.1.1.1,.inr m.1.2,.inr m.2,by omega,by rw [m.1.1.2]; decide⟩
  rw [if_neg (by simp [this])]
  exact ⟨_,rfl⟩
 ·intro l hw
  obtain ⟨f1,Y,M,I,J,U,f7⟩:=of_decide_eq_true l
  have s:=jQ G hw
  obtain ⟨A,B⟩:∃ A,A=n.Args.map fun a=>ix g a:=⟨_,rfl⟩
  have Z:A.length=2:=by rw [B]; simp; omega
  rw [← B] at s ⊢
  obtain ⟨t,u,rfl⟩:∃ t u,A=[t,u]:=by
   match A,Z with
   | [t,u],_=>exact ⟨t,u,rfl⟩
  have j:TT t:=s t (by simp)
  have O:TT u:=s u (by simp)
  have L:bN ⟨2,false,n.Op - 2,0,[]⟩ n ([t,u].map Tensor.Dims)=some (if t.Dims=u.Dims then (t.Dims,true) else ([],false)):=by
   rw [sh2,t8 (fun a F=>by
    have:a=t.Dims∨a=u.Dims:=by simpa using F
    have:=km j; have:=km O
    unfold bZ
    rcases ‹a=t.Dims∨a=u.Dims› with rfl | rfl<;>omega)]
   by_cases q:t.Dims=u.Dims
   ·rw [if_pos q,if_pos ⟨rfl,q⟩]; rfl
   ·rw [if_neg q,if_neg (fun z=>q z.2)]
  have b:Do n g=(Zy t.Dims u.Dims).bind fun E=>if (!E)=true then some ⟨[],[]⟩ else (Z13 (aH (aH (n.Op - 3)+1)) t u).bind fun D=>some D:=by
   unfold Do Z1
   rw [if_neg (by omega),← B,if_neg (by simp; omega)]
   rcases i with h | h | h
   ·rw [if_pos (by simp [h])]; simp only [Z1_J1,h]; rfl
   ·rw [if_neg (by simp [h]),if_pos (by simp [h])]; simp only [Z1_J1,h]; rfl
   ·rw [if_neg (by simp [h]),if_neg (by simp [h])]; simp only [Z1_J1,h]; rfl
  rw [sE (by have:=km j; unfold bZ; omega)] at b
  simp only [Option.bind_some] at b
  by_cases q:t.Dims=u.Dims
  ·rw [decide_eq_true q,if_neg (by simp)] at b
   have r:aH (aH (n.Op - 3)+1)=n.Op - 2:=by rw [bA (n:=n.Op - 3) (by omega) (by omega),bA (by omega) (by omega)]; omega
   rw [r] at b
   obtain ⟨d,d1,d2⟩:=zH (op:=n.Op - 2) j O q (by omega) (by omega)
   rw [d1] at b
   exact ⟨⟨t.Dims,d⟩,.inl ⟨by rw [L,if_pos q],b,d2⟩⟩
  ·rw [decide_eq_false q,if_pos (by simp)] at b
   exact ⟨⟨[],[]⟩,.inr ⟨[],by rw [L,if_neg q],b⟩⟩
theorem hG {n:Node}{b:List Tensor}(E:Caps n b){kd:kindOfR}{u:aM}{m h:Bool}{ui uj:Int}(hk:Zv n.Op=some kd)(T:Nat.beq kd.t 0=false)(hu:fM kd=some u)
  (h1:Z6 gP u=some m) (h2:Z6 eP u=some h) (M:Z6 k8 u=some false) (U:Z6 oi u=some false)
  (g:Z17 n=some (decide (FM n 1 1 m ui uj))) (i:n.Op≠1∧n.Op≠2∧n.Op≠11) (J:h=false→ui=0∧uj=0)
  (sa:∀ args:List (List Int),args.length≠1→bN kd n args=some ([],false))
  (Y:∀ t:Tensor,TT t→¬ (ui≤(n.Ints.length:Int)∧(n.Ints.length:Int)≤uj)→h=true→∃ ds,bN kd n [t.Dims]=some (ds,false))
  (s:FM n 1 1 m ui uj→∀ t:Tensor,TT t→(∃ l,bN kd n [t.Dims]=some (l.Dims,true)∧Z1 n [t]=some l∧TT l)∨∃ ds,bN kd n [t.Dims]=some (ds,false)∧Z1 n [t]=some ⟨[],[]⟩) :
  oH n b (Zd n (b.map Tensor.Dims)):=by
 refine mF E hk T hu (kO n u m h false false h1 h2 M U) g ?_ ?_ ?_
 ·intro g
  obtain ⟨f1,f2,G,I,L,f6,f7⟩:=of_decide_eq_true g
  have g4:n.Form=[]:=I.resolve_left i.2.2
  have g5:n.Data=[]:=L.resolve_left i.2.1
  refine ⟨?_,by omega⟩
  have O:(h||((n.Ints.length:Int)==0))=true:=by
   cases h
   ·obtain ⟨rfl,rfl⟩:=J rfl
    have:n.Ints=[]:=List.eq_nil_of_length_eq_zero (by omega)
    rw [this]; rfl
   ·rfl
  have Z:(m||((n.Dims.length:Int)==0))=true:=by
   rcases G with q | q
   ·rw [q]; rfl
   ·rw [q]; simp
  rw [Z,O,g4,g5]; rfl
 ·intro r hw g
  have B:=jQ E hw
  by_cases e:n.Args.length=1
  ·obtain ⟨A,j⟩:∃ A,A=n.Args.map fun a=>ix b a:=⟨_,rfl⟩
   have F:A.length=1:=by rw [j]; simp [e]
   rw [← j] at B ⊢
   obtain ⟨t,rfl⟩:∃ t,A=[t]:=by
    match A,F with
    | [t],_=>exact ⟨t,rfl⟩
   simp only [Bool.false_or,Bool.and_eq_true,Bool.or_eq_true,kP,beq_iff_eq] at r
   have no:¬ (ui≤(n.Ints.length:Int)∧(n.Ints.length:Int)≤uj):=by
    intro z
    exact of_decide_eq_false g ⟨by omega,by omega,r.1.1.1,.inr r.1.2,.inr r.2,z.1,z.2⟩
   cases h with
   | true=>exact Y t (B t (by simp)) no rfl
   | false =>
    obtain ⟨rfl,rfl⟩:=J rfl
    have:n.Ints=[]:=by simpa using r.1.1.2
    exact absurd ⟨by omega,by rw [this]; decide⟩ no
  ·exact ⟨_,sa _ (by simpa using e)⟩
 ·intro g hw
  have hF:=of_decide_eq_true g
  obtain ⟨f1,f2,G,I,L,f6,f7⟩:=hF
  have B:=jQ E hw
  obtain ⟨A,j⟩:∃ A,A=n.Args.map fun a=>ix b a:=⟨_,rfl⟩
  have F:A.length=1:=by rw [j]; simp; omega
  have D:Do n b=Z1 n A:=by unfold Do; rw [if_neg i.1,j]
  rw [D]
  rw [← j] at B ⊢
  obtain ⟨t,rfl⟩:∃ t,A=[t]:=by
   match A,F with
   | [t],_=>exact ⟨t,rfl⟩
  rcases s (of_decide_eq_true g) t (B t (by simp)) with ⟨l,q⟩ | q
  ·exact ⟨l,.inl q⟩
  ·exact ⟨⟨[],[]⟩,.inr q⟩
theorem BE (b i j s n args):bN ⟨3,b,i,j,s⟩ n args=Z2u ⟨i⟩ n args:=rfl
theorem Bd (b i j s n args):bN ⟨4,b,i,j,s⟩ n args=Z1w ⟨⟩ n args:=rfl
theorem vK (b i j s n args):bN ⟨6,b,i,j,s⟩ n args=Z1s ⟨s⟩ n args:=rfl
theorem BF (b i j s n args):bN ⟨7,b,i,j,s⟩ n args=Z24 ⟨s⟩ n args:=rfl
theorem Be (b i j s n args):bN ⟨8,b,i,j,s⟩ n args=Z1o ⟨s⟩ i j n args:=rfl
theorem Bf (b i j s n args):bN ⟨9,b,i,j,s⟩ n args=Z1p ⟨s⟩ i j n args:=rfl
theorem xi (b i j s n args):bN ⟨10,b,i,j,s⟩ n args=Z1q ⟨s⟩ i j n args:=rfl
theorem xj (b i j s n args):bN ⟨11,b,i,j,s⟩ n args=Z1r ⟨s⟩ i j n args:=rfl
theorem xk (n:Node)(t:Tensor)(h:6≤n.Op∧n.Op≤9):Z1 n [t]=(Z12 (aH (aH (n.Op - 6)+1)) t).bind fun r=>some r:=by
 have a:n.Op=6∨n.Op=7∨n.Op=8∨n.Op=9:=by omega
 unfold Z1
 rcases a with h | h | h | h<;>simp only [Z1_J1,Z1_J2,h]<;>rfl
theorem uH {n:Node}{b:List Tensor}(i:Caps n b)(h:6≤n.Op∧n.Op≤9):oH n b (Zd n (b.map Tensor.Dims)):=by
 have a:n.Op=6∨n.Op=7∨n.Op=8∨n.Op=9:=by omega
 refine hG i (kd:=⟨3,false,n.Op - 5,0,[]⟩) (u:=[]) (ui:=0) (uj:=0) (by rcases a with h | h | h | h<;>rw [h]<;>rfl) rfl rfl sX sY sZ t2 (gG (by omega) (by omega) (by rcases a with h | h | h | h<;>rw [h]<;>rfl) (by rcases a with h | h | h | h<;>rw [h]<;>rfl) (by rcases a with h | h | h | h<;>rw [h]<;>rfl) (by rw [if_neg (by omega)]) ⟨by omega,by omega⟩) ⟨by omega,by omega,by omega⟩ (fun _=>⟨rfl,rfl⟩) ?_ ?_ ?_
 ·intro args l
  rw [BE]; unfold Z2u
  rw [if_pos (by simp; omega)]
 ·intro _ _ _ j; cases j
 ·intro _ t g
  have e:aH (aH (n.Op - 6)+1)=n.Op - 5:=by rw [bA (n:=n.Op - 6) (by omega) (by omega),bA (by omega) (by omega)]; omega
  obtain ⟨d,d1,d2⟩:=zG (op:=n.Op - 5) g (by omega) (by omega)
  exact .inl ⟨⟨t.Dims,d⟩,by rw [BE]; rfl,by rw [xk n t h,e,d1]; rfl,d2⟩
theorem xl {n:Node}{b:List Tensor}(m:Caps n b)(h:n.Op=10):oH n b (Zd n (b.map Tensor.Dims)):=by
 have g:∀ args:List (List Int),args.length≠1∨n.Ints.length≠1→Z1w ⟨⟩ n args=some ([],false):=by
  intro args j
  unfold Z1w
  have e:(((args.length:Int) != 1)||((n.Ints.length:Int) != 1))=true:=by
   rcases j with q | q
   ·have:((args.length:Int) != 1)=true:=by simp; omega
    rw [this]; rfl
   ·have:((n.Ints.length:Int) != 1)=true:=by simp; omega
    rw [this]; simp
  rw [e,if_pos (fun z=>by cases z),if_pos (fun z=>by cases z)]
  simp [bP]
 refine hG m (kd:=⟨4,false,0,0,[]⟩) (u:=eP) (ui:=1) (uj:=1) (by rw [h]; rfl) rfl rfl kn ko kp kq (gG (by omega) (by omega) (by rw [h]; rfl) (by rw [h]; rfl) (by rw [h]; rfl) (by rw [if_neg (by omega)]) ⟨by omega,by omega⟩) ⟨by omega,by omega,by omega⟩ (fun s=>by cases s) ?_ ?_ ?_
 ·intro args j
  rw [Bd]; exact g args (.inl j)
 ·intro t _ U _
  rw [Bd]; exact ⟨_,g _ (.inr (by omega))⟩
 ·intro I t E
  obtain ⟨f1,O,L,M,T,Y,J⟩:=I
  have B:n.Ints.length=1:=by omega
  have i:Z1 n [t]=(Za t (ix n.Ints 0)).bind fun r=>some r:=by
   unfold Z1
   simp only [Z1_J1,Z1_J2,h]
   simp only [Int.reduceBEq,Bool.false_eq_true,if_false,if_true,beq_self_eq_true]
   rw [if_pos (by simp),if_pos (by omega)]
   rfl
  have G:Z1w ⟨⟩ n [t.Dims]=some (if 0≤ix n.Ints 0∧ix n.Ints 0<(t.Dims.length:Int) then (t.Dims,true) else ([],false)):=by
   unfold Z1w
   have e:((([t.Dims].length:Int) != 1)||((n.Ints.length:Int) != 1))=false:=by simp [B]
   rw [e,if_pos (fun _=>by simp),if_pos (fun _=>by omega)]
   simp only [bP,Bool.not_false,cond_true,Zk,Option.bind_some,Bool.false_or]
   have D:ix [t.Dims] (0:Int)=t.Dims:=rfl
   rw [D]
   by_cases c:0≤ix n.Ints 0∧ix n.Ints 0<(t.Dims.length:Int)
   ·rw [if_pos c,if_neg (by simp; omega)]; simp
   ·rw [if_neg c,if_pos (by simp; omega)]
  rw [Bd,G,i]
  obtain ⟨F,l⟩:=zJ (a:=ix n.Ints 0) E
  by_cases c:0≤ix n.Ints 0∧ix n.Ints 0<(t.Dims.length:Int)
  ·obtain ⟨d,d1,d2⟩:=F c
   exact .inl ⟨⟨t.Dims,d⟩,by rw [if_pos c],by rw [d1]; rfl,d2⟩
  ·exact .inr ⟨[],by rw [if_neg c],by rw [l c]; rfl⟩
theorem nM {n:Node}{s:aM}{ds:List Int}{v:View}(h:Z1c n ds=some v)(b:VG v.Dims v.Strides v.Offset v.Base):Z1s ⟨s⟩ n [ds]=some (v.Dims,true):=by
 obtain ⟨ps,a⟩:=uy b
 unfold Z1s
 rw [if_neg (by simp),if_pos (by simp)]
 have e:ix [ds] (0:Int)=ds:=rfl
 unfold Z2s
 rw [e,h]
 simp only [Option.bind_some,a]
theorem l8 {n:Node}{s:aM}{ds:List Int}(h:Z1c n ds=some dQ):Z1s ⟨s⟩ n [ds]=some ([],false):=by
 unfold Z1s
 rw [if_neg (by simp),if_pos (by simp)]
 have a:ix [ds] (0:Int)=ds:=rfl
 unfold Z2s
 rw [a,h]
 simp only [Option.bind_some,Z2h]
 rw [show Zf dQ=some false from uw]
 rfl
theorem mH {n:Node}{s:aM}{args:List (List Int)}(h:args.length≠1):Z1s ⟨s⟩ n args=some ([],false):=by
 unfold Z1s
 rw [if_pos (by simp; omega)]
theorem re {n:Node}{b:List Tensor}(l:Caps n b)(h:n.Op=12):oH n b (Zd n (b.map Tensor.Dims)):=by
 refine hG l (kd:=⟨6,false,0,0,gP⟩) (u:=gP) (ui:=0) (uj:=0) (by rw [h]; rfl) rfl rfl pi pj pl pm (gG (by omega) (by omega) (by rw [h]; rfl) (by rw [h]; rfl) (by rw [h]; rfl) (by rw [if_neg (by omega)]) ⟨by omega,by omega⟩) ⟨by omega,by omega,by omega⟩ (fun _=>⟨rfl,rfl⟩) ?_ ?_ ?_
 ·intro args B; rw [vK]; exact mH B
 ·intro _ _ _ s; cases s
 ·intro _ t e
  have a:Z1 n [t]=(Zu t.Dims).bind fun i=>(Z00 i n.Dims).bind fun j=>(Zz t j).bind fun m=>some m:=by
   unfold Z1
   simp only [Z1_J1,Z1_J2,h]
   simp only [Int.reduceBEq,Bool.false_eq_true,if_false,if_true,beq_self_eq_true]
   rw [if_pos (by simp)]
   rfl
  rw [jX e.d] at a
  simp only [Option.bind_some] at a
  rw [sN e.d l.d] at a
  simp only [Option.bind_some] at a
  have g:Z1c n t.Dims=(Z2e (bT t.Dims) n.Dims).bind fun r=>some r:=by
   unfold Z1c
   rw [kK e.d]
   simp only [Option.bind_some]
   rw [if_pos (by simp [h])]
  rw [sO e.d l.d] at g
  simp only [Option.bind_some] at g
  rw [vK]
  by_cases c:dZ n.Dims∧t.Dims.length≤n.Dims.length∧lE t.Dims (n.Dims.drop (n.Dims.length - t.Dims.length))=true
  ·rw [if_pos c] at a g
   have q:VG n.Dims (jy t.Dims n.Dims) 0 (pr t.Dims):=na e.d c.1 c.2.1
   obtain ⟨d,d1,d2⟩:=nI (v:=⟨n.Dims,jy t.Dims n.Dims,0,pr t.Dims⟩) e q rfl
   rw [d1] at a
   exact .inl ⟨⟨n.Dims,d⟩,nM g q,a,d2⟩
  ·rw [if_neg c] at a g
   rw [lZ e] at a
   exact .inr ⟨[],l8 g,a⟩
theorem pn {n:Node}{b:List Tensor}(j:Caps n b)(h:n.Op=13):oH n b (Zd n (b.map Tensor.Dims)):=by
 refine hG j (kd:=⟨7,false,0,0,gP⟩) (u:=gP) (ui:=0) (uj:=0) (by rw [h]; rfl) rfl rfl pi pj pl pm (gG (by omega) (by omega) (by rw [h]; rfl) (by rw [h]; rfl) (by rw [h]; rfl) (by rw [if_neg (by omega)]) ⟨by omega,by omega⟩) ⟨by omega,by omega,by omega⟩ (fun _=>⟨rfl,rfl⟩) ?_ ?_ ?_
 ·intro args B
  rw [BF]; unfold Z24
  rw [if_pos (by simp; omega)]
 ·intro _ _ _ q; cases q
 ·intro _ t e
  have a:Z1 n [t]=(Zu t.Dims).bind fun l=>(Z07 l n.Dims).bind fun g=>(Zz t g).bind fun m=>some m:=by
   unfold Z1
   simp only [Z1_J1,Z1_J2,h]
   simp only [Int.reduceBEq,Bool.false_eq_true,if_false,if_true,beq_self_eq_true]
   rw [if_pos (by simp)]
   rfl
  rw [jX e.d] at a
  simp only [Option.bind_some] at a
  rw [r0 e.d j.d] at a
  simp only [Option.bind_some] at a
  obtain ⟨ps,i⟩:=mC (n:=n) e.d j.d
  have s:Z24 ⟨gP⟩ n [t.Dims]=(Z10 n t.Dims).bind fun r=>some (r.1,r.2.2):=by
   unfold Z24
   rw [if_neg (by simp),if_pos (by simp)]
   rfl
  rw [BF,s,i]
  by_cases c:dZ n.Dims∧pr n.Dims=pr t.Dims
  ·rw [if_pos c] at a ⊢
   obtain ⟨d,d1,d2⟩:=nI (v:=bT n.Dims) e (iP c.1) c.2
   rw [d1] at a
   exact .inl ⟨⟨n.Dims,d⟩,rfl,a,d2⟩
  ·rw [if_neg c] at a ⊢
   rw [lZ e] at a
   exact .inr ⟨[],rfl,a⟩
theorem ta {n:Node}{i:List Tensor}(D:Caps n i)(h:n.Op=14):oH n i (Zd n (i.map Tensor.Dims)):=by
 refine hG D (kd:=⟨6,false,0,0,eP⟩) (u:=eP) (ui:=4) (uj:=4) (by rw [h]; rfl) rfl rfl kn ko kp kq (gG (by omega) (by omega) (by rw [h]; rfl) (by rw [h]; rfl) (by rw [h]; rfl) (by rw [if_neg (by omega)]) ⟨by omega,by omega⟩) ⟨by omega,by omega,by omega⟩ (fun E=>by cases E) ?_ ?_ ?_
 ·intro args B; rw [vK]; exact mH B
 ·intro t b T _
  rw [vK]
  refine ⟨_,l8 ?_⟩
  unfold Z1c
  rw [kK b.d]
  simp only [Option.bind_some,h]
  have e:((n.Ints.length:Int)==4)=false:=by simp; omega
  rw [if_neg (by simp),e]
  simp [dQ]
 ·intro G t b
  obtain ⟨f1,M,J,L,O,U,I⟩:=G
  have F:n.Ints.length=4:=by omega
  have a:Z1 n [t]=if ix n.Ints 3<1 then some ⟨[],[]⟩ else (Zu t.Dims).bind fun l=>(Z1a l (ix n.Ints 0) (ix n.Ints 1) (ix n.Ints 2) (ix n.Ints 3)).bind fun j=>(Zz t j).bind fun m=>some m:=by
   unfold Z1
   simp only [Z1_J1,Z1_J2,h]
   simp only [Int.reduceBEq,Bool.false_eq_true,if_false,if_true,beq_self_eq_true]
   rw [if_pos (by omega)]
   by_cases c:ix n.Ints 3<1
   ·rw [if_pos (by simpa using c),if_pos c]
   ·rw [if_neg (by simpa using c),if_neg c,if_pos (by simp)]
    show (Zu t.Dims).bind _=_
    rw [jX b.d]
    simp only [Option.bind_some]
    rw [if_pos (by omega),if_pos (by omega),if_pos (by omega)]
    rfl
  have g:Z1c n t.Dims=if 1≤ix n.Ints 3 then (Z2d (bT t.Dims) (ix n.Ints 0) (ix n.Ints 1) (ix n.Ints 2) (ix n.Ints 3)).bind fun r=>some r else some dQ:=by
   unfold Z1c
   rw [kK b.d]
   simp only [Option.bind_some,h,F]
   rw [if_neg (by simp),if_pos (by simp)]
   by_cases c:1≤ix n.Ints 3
   ·rw [if_pos (by simp; omega),if_pos (by simp),if_pos (by simp),if_pos (by simp),if_pos (by simp),if_pos c]
   ·rw [if_neg (by simp; omega),if_neg (by simp),if_neg c]; rfl
  rw [vK]
  by_cases c:1≤ix n.Ints 3
  ·rw [if_neg (by omega),jX b.d] at a
   simp only [Option.bind_some] at a
   rw [uA b.d c] at a
   rw [if_pos c,uB b.d c] at g
   simp only [Option.bind_some] at a g
   by_cases q:lF t.Dims (ix n.Ints 0) (ix n.Ints 1) (ix n.Ints 2) (ix n.Ints 3)
   ·rw [if_pos q] at a g
    have s:=nE b.d q
    obtain ⟨d,d1,d2⟩:=nI b s rfl
    rw [d1] at a
    exact .inl ⟨⟨_,d⟩,nM g s,a,d2⟩
   ·rw [if_neg q] at a g
    rw [lZ b] at a
    exact .inr ⟨[],l8 g,a⟩
  ·rw [if_pos (by omega)] at a
   rw [if_neg c] at g
   exact .inr ⟨[],l8 g,a⟩
theorem rf {n:Node}{g:List Tensor}(D:Caps n g)(h:n.Op=18):oH n g (Zd n (g.map Tensor.Dims)):=by
 refine hG D (kd:=⟨6,false,0,0,eP⟩) (u:=eP) (ui:=3) (uj:=3) (by rw [h]; rfl) rfl rfl kn ko kp kq (gG (by omega) (by omega) (by rw [h]; rfl) (by rw [h]; rfl) (by rw [h]; rfl) (by rw [if_neg (by omega)]) ⟨by omega,by omega⟩) ⟨by omega,by omega,by omega⟩ (fun E=>by cases E) ?_ ?_ ?_
 ·intro args B; rw [vK]; exact mH B
 ·intro t b T _
  rw [vK]
  refine ⟨_,l8 ?_⟩
  unfold Z1c
  rw [kK b.d]
  simp only [Option.bind_some,h]
  have e:((n.Ints.length:Int)==3)=false:=by simp; omega
  rw [if_neg (by simp),e]
  simp [dQ]
 ·intro G t b
  obtain ⟨f1,M,J,L,O,U,I⟩:=G
  have F:n.Ints.length=3:=by omega
  have a:Z1 n [t]=(Zu t.Dims).bind fun l=>(Z09 l (ix n.Ints 0) (ix n.Ints 1) (ix n.Ints 2)).bind fun j=>(Zz t j).bind fun m=>some m:=by
   unfold Z1
   simp only [Z1_J1,Z1_J2,h]
   simp only [Int.reduceBEq,Bool.false_eq_true,if_false,if_true,beq_self_eq_true]
   rw [if_pos (by simp)]
   show (Zu t.Dims).bind _=_
   rw [jX b.d]
   simp only [Option.bind_some]
   rw [if_pos (by omega),if_pos (by omega),if_pos (by omega)]
   rfl
  have i:Z1c n t.Dims=(Z2f (bT t.Dims) (ix n.Ints 0) (ix n.Ints 1) (ix n.Ints 2)).bind fun r=>some r:=by
   unfold Z1c
   rw [kK b.d]
   simp only [Option.bind_some,h,F]
   rw [if_neg (by simp),if_pos (fun z=>by simp at z),if_neg (by simp),if_pos (by simp),if_pos (by simp),if_pos (by simp),if_pos (by simp)]
  rw [vK]
  rw [jX b.d] at a
  simp only [Option.bind_some] at a
  rw [qX b.d] at a
  rw [qY b.d] at i
  simp only [Option.bind_some] at a i
  by_cases q:lG t.Dims (ix n.Ints 0) (ix n.Ints 1) (ix n.Ints 2)∧dZ (fK t.Dims (ix n.Ints 0) (ix n.Ints 1) (ix n.Ints 2)).Dims
  ·rw [if_pos q] at a i
   have s:=pg b.d q.1 q.2
   obtain ⟨d,d1,d2⟩:=nI b s rfl
   rw [d1] at a
   exact .inl ⟨⟨_,d⟩,nM i s,a,d2⟩
  ·rw [if_neg q] at a i
   rw [lZ b] at a
   exact .inr ⟨[],l8 i,a⟩
theorem tb {s i j}{n:Node}{args:List (List Int)}(h:args.length≠1):Z1o s i j n args=some ([],false):=by
 unfold Z1o
 rw [if_pos (by simp; omega)]
theorem xm {s i j}{n:Node}{ds:List Int}(h:¬ (i≤(n.Ints.length:Int)∧(n.Ints.length:Int)≤j)):Z1o s i j n [ds]=some ([],false):=by
 unfold Z1o
 rw [if_neg (by simp),if_pos (by simp)]
 unfold Z2o
 rw [if_pos (by simp; omega)]
 rfl
theorem uI {s i j}{n:Node}{ds:List Int}(h:i≤(n.Ints.length:Int)∧(n.Ints.length:Int)≤j):Z1o s i j n [ds]=(Z1y n.Ints ds).bind fun r=>some (r.1,r.2.2):=by
 unfold Z1o
 rw [if_neg (by simp),if_pos (by simp)]
 unfold Z2o
 rw [if_neg (by simp; omega)]
 have a:ix [ds] (0:Int)=ds:=rfl
 rw [a]
 cases Z1y n.Ints ds<;>rfl
theorem tc {s i j}{n:Node}{args:List (List Int)}(h:args.length≠1):Z1p s i j n args=some ([],false):=by
 unfold Z1p
 rw [if_pos (by simp; omega)]
theorem xn {s i j}{n:Node}{ds:List Int}(h:¬ (i≤(n.Ints.length:Int)∧(n.Ints.length:Int)≤j)):Z1p s i j n [ds]=some ([],false):=by
 unfold Z1p
 rw [if_neg (by simp),if_pos (by simp)]
 unfold Z2p
 rw [if_pos (by simp; omega)]
 rfl
theorem uJ {s i j}{n:Node}{ds:List Int}(h:i≤(n.Ints.length:Int)∧(n.Ints.length:Int)≤j):Z1p s i j n [ds]=(Z1z n.Ints ds).bind fun r=>some (r.1,r.2.2):=by
 unfold Z1p
 rw [if_neg (by simp),if_pos (by simp)]
 unfold Z2p
 rw [if_neg (by simp; omega)]
 have a:ix [ds] (0:Int)=ds:=rfl
 rw [a]
 cases Z1z n.Ints ds<;>rfl
theorem te {s i j}{n:Node}{args:List (List Int)}(h:args.length≠1):Z1q s i j n args=some ([],false):=by
 unfold Z1q
 rw [if_pos (by simp; omega)]
theorem xo {s i j}{n:Node}{ds:List Int}(h:¬ (i≤(n.Ints.length:Int)∧(n.Ints.length:Int)≤j)):Z1q s i j n [ds]=some ([],false):=by
 unfold Z1q
 rw [if_neg (by simp),if_pos (by simp)]
 unfold Z2q
 rw [if_pos (by simp; omega)]
 rfl
theorem uK {s i j}{n:Node}{ds:List Int}(h:i≤(n.Ints.length:Int)∧(n.Ints.length:Int)≤j):Z1q s i j n [ds]=(Z20 n.Ints ds).bind fun r=>some (r.1,r.2.2):=by
 unfold Z1q
 rw [if_neg (by simp),if_pos (by simp)]
 unfold Z2q
 rw [if_neg (by simp; omega)]
 have a:ix [ds] (0:Int)=ds:=rfl
 rw [a]
 cases Z20 n.Ints ds<;>rfl
theorem tf {s i j}{n:Node}{args:List (List Int)}(h:args.length≠1):Z1r s i j n args=some ([],false):=by
 unfold Z1r
 rw [if_pos (by simp; omega)]
theorem xp {s i j}{n:Node}{ds:List Int}(h:¬ (i≤(n.Ints.length:Int)∧(n.Ints.length:Int)≤j)):Z1r s i j n [ds]=some ([],false):=by
 unfold Z1r
 rw [if_neg (by simp),if_pos (by simp)]
 unfold Z2r
 rw [if_pos (by simp; omega)]
 rfl
theorem uL {s i j}{n:Node}{ds:List Int}(h:i≤(n.Ints.length:Int)∧(n.Ints.length:Int)≤j):Z1r s i j n [ds]=(Z21 n.Ints ds).bind fun r=>some (r.1,r.2.2):=by
 unfold Z1r
 rw [if_neg (by simp),if_pos (by simp)]
 unfold Z2r
 rw [if_neg (by simp; omega)]
 have a:ix [ds] (0:Int)=ds:=rfl
 rw [a]
 cases Z21 n.Ints ds<;>rfl
theorem xq {n:Node}{e:List Tensor}(B:Caps n e)(h:n.Op=15):oH n e (Zd n (e.map Tensor.Dims)):=by
 refine hG B (kd:=⟨8,false,4,4,eP⟩) (u:=eP) (ui:=4) (uj:=4) (by rw [h]; rfl) rfl rfl kn ko kp kq (gG (by omega) (by omega) (by rw [h]; rfl) (by rw [h]; rfl) (by rw [h]; rfl) (by simp [h]) ⟨by omega,by omega⟩) ⟨by omega,by omega,by omega⟩ (fun D=>by cases D) ?_ ?_ ?_
 ·intro args q; rw [Be]; exact tb q
 ·intro t j E _; rw [Be]; exact ⟨_,xm E⟩
 ·intro L t j
  obtain ⟨f1,U,O,T,Y,M,m⟩:=L
  have i:Z1 n [t]=(Z0t t (ix n.Ints 0) (ix n.Ints 1) (ix n.Ints 2) (ix n.Ints 3)).bind fun r=>some r:=by
   unfold Z1
   simp only [Z1_J1,Z1_J2,h]
   simp only [Int.reduceBEq,Bool.false_eq_true,if_false,if_true,beq_self_eq_true]
   rw [if_pos (by simp),if_pos (by omega),if_pos (by omega),if_pos (by omega),if_pos (by omega)]
   rfl
  have G:Z1y n.Ints t.Dims=(Zw t.Dims (ix n.Ints 0) (ix n.Ints 1) (ix n.Ints 2) (ix n.Ints 3)).bind fun r=>some (r.1,r.2.1,r.2.2):=by
   unfold Z1y
   rw [if_pos (by omega),if_pos (by omega),if_pos (by omega),if_pos (by omega)]
  rw [Be,uI ⟨M,m⟩,G,i]
  obtain ⟨ds,ps,I,J⟩:Sh (Zw t.Dims (ix n.Ints 0) (ix n.Ints 1) (ix n.Ints 2) (ix n.Ints 3)) (mE t.Dims (ix n.Ints 0) (ix n.Ints 1) (ix n.Ints 2) (ix n.Ints 3)) (t.Dims.set (ix n.Ints 0).toNat (jD t.Dims (ix n.Ints 0) (ix n.Ints 1) (ix n.Ints 2) (ix n.Ints 3))):=zK j.d
  obtain ⟨F,s⟩:=zI (a:=ix n.Ints 0) (b:=ix n.Ints 1) (f:=ix n.Ints 2) (g:=ix n.Ints 3) j
  rw [I]
  by_cases c:mE t.Dims (ix n.Ints 0) (ix n.Ints 1) (ix n.Ints 2) (ix n.Ints 3)
  ·obtain ⟨d,d1,d2⟩:=F c
   have l:=J c
   rw [d1,decide_eq_true c]
   subst l
   exact .inl ⟨⟨_,d⟩,rfl,rfl,d2⟩
  ·rw [s c,decide_eq_false c]
   exact .inr ⟨ds,rfl,rfl⟩
theorem rh {n:Node}{b:List Tensor}(g:Caps n b)(h:n.Op=16):oH n b (Zd n (b.map Tensor.Dims)):=by
 refine hG g (kd:=⟨9,false,1,4097,eP⟩) (u:=eP) (ui:=1) (uj:=4097) (by rw [h]; rfl) rfl rfl kn ko kp kq (gG (by omega) (by omega) (by rw [h]; rfl) (by rw [h]; rfl) (by rw [h]; rfl) (by simp [h]) ⟨by omega,by omega⟩) ⟨by omega,by omega,by omega⟩ (fun B=>by cases B) ?_ ?_ ?_
 ·intro args q; rw [Bf]; exact tc q
 ·intro t j D _; rw [Bf]; exact ⟨_,xn D⟩
 ·intro J t j
  obtain ⟨f1,T,M,O,U,L,m⟩:=J
  have e:Z1 n [t]=(Z0s t (ix n.Ints 0) (n.Ints.drop 1)).bind fun r=>some r:=by
   unfold Z1
   simp only [Z1_J1,Z1_J2,h]
   simp only [Int.reduceBEq,Bool.false_eq_true,if_false,if_true,beq_self_eq_true]
   rw [if_pos (by simp),if_pos (by omega),if_pos (by omega),hD]
   rfl
  have F:Z1z n.Ints t.Dims=(Z0a t.Dims (ix n.Ints 0) (n.Ints.drop 1)).bind fun r=>some (r.1,r.2.1,r.2.2):=by
   unfold Z1z
   rw [if_pos (by omega),if_pos (by omega),hD]
   rfl
  rw [Bf,uJ ⟨L,m⟩,F,e]
  obtain ⟨ds,ps,G,I⟩:Sh (Z0a t.Dims (ix n.Ints 0) (n.Ints.drop 1)) (mD t.Dims (ix n.Ints 0) (n.Ints.drop 1)) (t.Dims.set (ix n.Ints 0).toNat ((n.Ints.drop 1).length:Int)):=sW j.d (by have:=g.i; simp; omega)
  obtain ⟨E,s⟩:=sU (a:=ix n.Ints 0) (xs:=n.Ints.drop 1) j (by have:=g.i; simp; omega)
  rw [G]
  by_cases c:mD t.Dims (ix n.Ints 0) (n.Ints.drop 1)
  ·obtain ⟨d,d1,d2⟩:=E c
   have l:=I c
   rw [d1,decide_eq_true c]
   subst l
   exact .inl ⟨⟨_,d⟩,rfl,rfl,d2⟩
  ·rw [s c,decide_eq_false c]
   exact .inr ⟨ds,rfl,rfl⟩
theorem po {n:Node}{b:List Tensor}(g:Caps n b)(h:n.Op=17):oH n b (Zd n (b.map Tensor.Dims)):=by
 refine hG g (kd:=⟨10,false,2,4098,eP⟩) (u:=eP) (ui:=2) (uj:=4098) (by rw [h]; rfl) rfl rfl kn ko kp kq (gG (by omega) (by omega) (by rw [h]; rfl) (by rw [h]; rfl) (by rw [h]; rfl) (by simp [h]) ⟨by omega,by omega⟩) ⟨by omega,by omega,by omega⟩ (fun B=>by cases B) ?_ ?_ ?_
 ·intro args q; rw [xi]; exact te q
 ·intro t j D _; rw [xi]; exact ⟨_,xo D⟩
 ·intro J t j
  obtain ⟨f1,T,M,O,U,L,m⟩:=J
  have e:Z1 n [t]=(Z0u t (ix n.Ints 0) (n.Ints.drop 2) (ix n.Ints 1)).bind fun r=>some r:=by
   unfold Z1
   simp only [Z1_J1,Z1_J2,h]
   simp only [Int.reduceBEq,Bool.false_eq_true,if_false,if_true,beq_self_eq_true]
   rw [if_pos (by simp),if_pos (by omega),if_pos (by omega),if_pos (by omega),hD]
   rfl
  have F:Z20 n.Ints t.Dims=(Z0b t.Dims (ix n.Ints 0) (n.Ints.drop 2) (ix n.Ints 1)).bind fun r=>some (r.1,r.2.1,r.2.2):=by
   unfold Z20
   rw [if_pos (by omega),if_pos (by omega),if_pos (by omega),hD]
   rfl
  rw [xi,uK ⟨L,m⟩,F,e]
  obtain ⟨ds,ps,G,I⟩:Sh (Z0b t.Dims (ix n.Ints 0) (n.Ints.drop 2) (ix n.Ints 1)) (lH t.Dims (ix n.Ints 0) (n.Ints.drop 2) (ix n.Ints 1)) (t.Dims.set (ix n.Ints 0).toNat (ix n.Ints 1)):=rb j.d (by have:=g.i; simp; omega)
  obtain ⟨E,s⟩:=ra (a:=ix n.Ints 0) (n:=ix n.Ints 1) (xs:=n.Ints.drop 2) j (by have:=g.i; simp; omega)
  rw [G]
  by_cases c:lH t.Dims (ix n.Ints 0) (n.Ints.drop 2) (ix n.Ints 1)
  ·obtain ⟨d,d1,d2⟩:=E c
   have l:=I c
   rw [d1,decide_eq_true c]
   subst l
   exact .inl ⟨⟨_,d⟩,rfl,rfl,d2⟩
  ·rw [s c,decide_eq_false c]
   exact .inr ⟨ds,rfl,rfl⟩
theorem uM {n:Node}{b:List Tensor}(q:Caps n b)(h:n.Op=19):oH n b (Zd n (b.map Tensor.Dims)):=by
 refine hG q (kd:=⟨11,false,3,3,eP⟩) (u:=eP) (ui:=3) (uj:=3) (by rw [h]; rfl) rfl rfl kn ko kp kq (gG (by omega) (by omega) (by rw [h]; rfl) (by rw [h]; rfl) (by rw [h]; rfl) (by simp [h]) ⟨by omega,by omega⟩) ⟨by omega,by omega,by omega⟩ (fun s=>by cases s) ?_ ?_ ?_
 ·intro args l; rw [xj]; exact tf l
 ·intro t g B _; rw [xj]; exact ⟨_,xp B⟩
 ·intro I t g
  obtain ⟨f1,O,L,M,T,J,j⟩:=I
  have e:Z1 n [t]=(Z0r t (ix n.Ints 0) (ix n.Ints 1) (ix n.Ints 2)).bind fun r=>some r:=by
   unfold Z1
   simp only [Z1_J1,Z1_J2,h]
   simp only [Int.reduceBEq,Bool.false_eq_true,if_false,if_true,beq_self_eq_true]
   rw [if_pos (by simp),if_pos (by omega),if_pos (by omega),if_pos (by omega)]
   rfl
  have E:Z21 n.Ints t.Dims=(Z4 t.Dims (ix n.Ints 0) (ix n.Ints 1) (ix n.Ints 2)).bind fun r=>some (r.1,r.2.1,r.2.2):=by
   unfold Z21
   rw [if_pos (by omega),if_pos (by omega),if_pos (by omega)]
  rw [xj,uL ⟨J,j⟩,E,e]
  obtain ⟨ds,ps,F,G⟩:Sh (Z4 t.Dims (ix n.Ints 0) (ix n.Ints 1) (ix n.Ints 2)) (lK t.Dims (ix n.Ints 0) (ix n.Ints 1) (ix n.Ints 2)) ((t.Dims.set (ix n.Ints 0).toNat (ix n.Ints 2)).take (t.Dims.length - 1)):=x7 g.d
  obtain ⟨D,m⟩:=x0 (a:=ix n.Ints 0) (st:=ix n.Ints 1) (n:=ix n.Ints 2) g
  rw [F]
  by_cases c:lK t.Dims (ix n.Ints 0) (ix n.Ints 1) (ix n.Ints 2)
  ·obtain ⟨d,d1,d2⟩:=D c
   have i:=G c
   rw [d1,decide_eq_true c]
   subst i
   exact .inl ⟨⟨_,d⟩,rfl,rfl,d2⟩
  ·rw [m c,decide_eq_false c]
   exact .inr ⟨ds,rfl,rfl⟩
def LT (s:aM):Prop:=s.length≤6∧∀ c∈s,97≤c.toNat∧c.toNat≤122
instance (s:aM):Decidable (LT s):=by unfold LT; infer_instance
theorem ne {s:aM}(g:s.length<bZ):Z0w s=some (decide (LT s)):=by
 unfold Z0w
 have:=eM s (fun i:Int=>Z0w_L1 s i) (fun i=>i) (fun c=>decide (97≤c.toNat∧c.toNat≤122)) (.inl false) (.inr ())
  (fun k b=>by
   have a:bt s (k:Int)=((ix s (k:Int)).toNat:Int):=rfl
   simp only [Z0w_L1]
   rw [if_pos (by simp; omega),if_pos (by omega),bX (by omega)]
   by_cases q:97≤(ix s (k:Int)).toNat∧(ix s (k:Int)).toNat≤122
   ·rw [if_neg (by simp only [Bool.or_eq_true,decide_eq_true_eq,a]; omega),decide_eq_true q,if_pos rfl]
   ·rw [if_pos (by simp only [Bool.or_eq_true,decide_eq_true_eq,a]; omega),decide_eq_false q,if_neg (by simp)])
  (by simp only [Z0w_L1]; rw [if_neg (by simp)])
 rw [this]
 have e:(s.all fun c=>decide (97≤c.toNat∧c.toNat≤122))=decide (∀ c∈s,97≤c.toNat∧c.toNat≤122):=by
  rw [Bool.eq_iff_iff]
  simp only [List.all_eq_true,decide_eq_true_eq]
 rw [e]
 by_cases c:∀ c∈s,97≤c.toNat∧c.toNat≤122
 ·rw [decide_eq_true c,if_pos rfl]
  show some (decide ((s.length:Int)≤6))=_
  congr 1
  rw [Bool.eq_iff_iff]
  simp only [decide_eq_true_eq]
  exact ⟨fun h=>⟨by omega,c⟩,fun h=>by have:=h.1; omega⟩
 ·rw [decide_eq_false c,decide_eq_false (fun z:LT s=>c z.2)]; rfl
theorem kQ {a b:UInt8}:((a.toNat:Int)==(b.toNat:Int))=decide (a=b):=by
 rw [Bool.eq_iff_iff]
 simp only [beq_iff_eq,decide_eq_true_eq]
 exact ⟨fun h=>UInt8.toNat_inj.1 (by omega),fun h=>by rw [h]⟩
theorem vL {s:aM}(j:s.length<bZ)(b:UInt8):Z0v s (b.toNat:Int)=some (decide (b∈s)):=by
 unfold Z0v
 have:=eM s (fun i:Int=>Z0v_L1 s (b.toNat:Int) i) (fun i=>i) (fun c=>!(decide (c=b))) (.inl true) (.inr ())
  (fun k h=>by
   have a:(bt s (k:Int)==(b.toNat:Int))=decide (ix s (k:Int)=b):=kQ
   simp only [Z0v_L1]
   rw [if_pos (by simp; omega),if_pos (by omega),bX (by omega),a]
   cases decide (ix s (k:Int)=b)<;>rfl)
  (by simp only [Z0v_L1]; rw [if_neg (by simp)])
 rw [this]
 by_cases c:b∈s
 ·have e:(s.all fun c=>!(decide (c=b)))=false:=by
   rw [List.all_eq_false]; exact ⟨b,c,by simp⟩
  rw [e,decide_eq_true c]; rfl
 ·have e:(s.all fun c=>!(decide (c=b)))=true:=by
   rw [List.all_eq_true]; intro x g
   have:x≠b:=fun q=>c (q▸g)
   simp [this]
  rw [e,decide_eq_false c]; rfl
theorem ri (c:UInt8):((c.toNat:Int)).toNat.toUInt8=c:=by
 rw [Int.toNat_natCast]
 exact UInt8.ofNat_toNat
theorem tg (s:aM)(c:UInt8):(Lib.indexByte s c<0)↔c ∉ s:=by
 induction s with
 | nil=>simp [Lib.indexByte]
 | cons b l ih =>
  unfold Lib.indexByte
  by_cases e:b=c
  ·subst e; simp
  ·have a:(b==c)=false:=by simpa using e
   have:=Lib.indexByte_ge l c
   rw [a]
   simp only [Bool.false_eq_true,if_false,List.mem_cons,not_or]
   rw [← ih]
   by_cases q:Lib.indexByte l c = -1
   ·rw [q]; simp; exact fun z=>e z.symm
   ·rw [if_neg (by simpa using q)]
    exact ⟨fun z=>by omega,fun z=>by omega⟩
theorem nN (s:aM)(c:UInt8):∃ r,Z1t s (c.toNat:Int)=some r∧(r<0↔c ∉ s):=by
 unfold Z1t cZ
 rw [ri]
 exact ⟨_,rfl,tg s c⟩
def pq:aM→Option (aM×aM)
 | []=>none
 | [_]=>none
 | x::y::r=>if x=45∧y=62 then some ([],r) else (pq (y::r)).map fun p=>(x::p.1,p.2)
def ce:aM→Nat
 | []=>0
 | [_]=>0
 | x::y::r=>if x=45∧y=62 then 0 else ce (y::r)+1
theorem kR:∀ {s l o:aM},pq s=some (l,o)→ce s=l.length∧s=l++45::62::o
 | [],_,_,h=>by cases h
 | [_],_,_,h=>by cases h
 | x::y::r,l,o,h=>by
  unfold pq at h; unfold ce
  by_cases c:x=45∧y=62
  ·rw [if_pos c] at h ⊢
   obtain ⟨rfl,rfl⟩:=c
   cases h
   exact ⟨rfl,rfl⟩
  ·rw [if_neg c] at h ⊢
   obtain ⟨⟨e,o'⟩,h1,h2⟩:=Option.map_eq_some_iff.1 h
   cases h2
   obtain ⟨b,a⟩:=kR h1
   exact ⟨by rw [b]; rfl,by rw [a]; rfl⟩
theorem qo:∀ {s:aM},pq s=none→s.length≤ce s+1
 | [],h=>by simp
 | [_],h=>by simp
 | x::y::r,h=>by
  unfold pq at h; unfold ce
  by_cases c:x=45∧y=62
  ·rw [if_pos c] at h; cases h
  ·rw [if_neg c] at h ⊢
   have:=qo (s:=y::r) (by simpa using h)
   simp at this ⊢; omega
theorem qp:∀ {s:aM} {j:Nat},j<ce s→j+1<s.length∧(s.drop j).take 2≠[45,62]
 | [],_,h=>by simp [ce] at h
 | [_],_,h=>by simp [ce] at h
 | x::y::r,j,h=>by
  unfold ce at h
  by_cases c:x=45∧y=62
  ·rw [if_pos c] at h; omega
  ·rw [if_neg c] at h
   cases j with
   | zero=>exact ⟨by simp,by simpa using c⟩
   | succ j =>
    obtain ⟨a,b⟩:=qp (s:=y::r) (j:=j) (by omega)
    exact ⟨by simp at a ⊢; omega,by simpa using b⟩
theorem vM:∀ {s:aM},ce s+1<s.length→(s.drop (ce s)).take 2=[45,62]
 | [],h=>by simp at h
 | [_],h=>by simp [ce] at h
 | x::y::r,h=>by
  unfold ce at h ⊢
  by_cases c:x=45∧y=62
  ·rw [if_pos c]; obtain ⟨rfl,rfl⟩:=c; rfl
  ·rw [if_neg c] at h ⊢
   have:=vM (s:=y::r) (by simp at h ⊢; omega)
   simpa using this
theorem nf:∀ (s:aM),Lib.index s str0=match pq s with | some p=>(p.1.length:Int) | none => -1
 | []=>rfl
 | [x]=>by
  unfold Lib.index pq
  simp [str0,Lib.index]
 | x::y::r=>by
  unfold Lib.index pq
  by_cases c:x=45∧y=62
  ·obtain ⟨rfl,rfl⟩:=c
   rw [if_pos (by simp [str0]),if_pos ⟨rfl,rfl⟩]; rfl
  ·rw [if_neg (by simp [str0]; intro a b; exact c ⟨a.symm,b.symm⟩),if_neg c,nf (y::r)]
   cases pq (y::r) with
   | none=>rfl
   | some p =>
    simp only [Option.map_some]
    rw [if_neg (by simp)]
    simp
def pre (p:aM):List aM→List aM
 | []=>[p]
 | g::gs=>(p++g)::gs
def fL:aM→List aM
 | []=>[[]]
 | x::r=>if x=44 then []::fL r else pre [x] (fL r)
theorem kS (x:UInt8)(r:aM):fL (x::r)=if x=44 then []::fL r else pre [x] (fL r):=rfl
theorem xr (p:aM)(gs:List aM):pre p gs≠[]:=by cases gs<;>simp [pre]
theorem l9 (s:aM):fL s≠[]:=by
 cases s with
 | nil=>simp [fL]
 | cons x r=>unfold fL; split; simp; exact xr _ _
theorem qq {gs:List aM}(h:gs≠[]):pre [] gs=gs:=by
 cases gs with
 | nil=>exact absurd rfl h
 | cons g gs=>rfl
theorem uN (p q:aM)(gs:List aM):pre p (pre q gs)=pre (p++q) gs:=by
 cases gs<;>simp [pre]
theorem uO (s:aM):(fL s).length=s.count 44+1:=by
 induction s with
 | nil=>rfl
 | cons x r ih =>
  unfold fL
  by_cases c:x=44
  ·subst c; simp [ih]
  ·rw [if_neg c,List.count_cons_of_ne (fun z=>c z)]
   cases h:fL r with
   | nil=>exact absurd h (l9 r)
   | cons g gs=>rw [h] at ih; simpa [pre] using ih
theorem xt {s:aM}(h:s.count 44=0):fL s=[s]:=by
 induction s with
 | nil=>rfl
 | cons x r ih =>
  have c:x≠44:=by intro q; subst q; simp at h
  rw [List.count_cons_of_ne (fun z=>c z)] at h
  unfold fL
  rw [if_neg c,ih h]; rfl
theorem uP (s:aM)(c:UInt8)(a:c≠44):(∃ g∈fL s,c∈g)↔c∈s:=by
 induction s with
 | nil=>simp [fL]
 | cons x r ih =>
  unfold fL
  by_cases q:x=44
  ·subst q
   rw [if_pos rfl]
   simp [a,ih]
  ·rw [if_neg q,List.mem_cons,← ih]
   cases h:fL r with
   | nil=>exact absurd h (l9 r)
   | cons g gs=>simp [pre,or_assoc]
theorem vN:∀ {x:aM},x.count 44≠0→∃ g r,x=g++44::r∧Lib.index x str6=(g.length:Int)∧fL x=g::fL r∧x.count 44=r.count 44+1
 | [],h=>by simp at h
 | b::l,h=>by
  by_cases c:b=44
  ·subst c
   exact ⟨[],l,rfl,by unfold Lib.index; simp [str6],by rw [kS,if_pos rfl],by simp⟩
  ·rw [List.count_cons_of_ne (fun z=>c z)] at h
   obtain ⟨g,r,h1,h2,a,e⟩:=vN h
   refine ⟨b::g,r,by rw [h1]; rfl,?_,?_,?_⟩
   ·unfold Lib.index
    rw [if_neg (by simp [str6]; exact fun z=>c z.symm),h2,if_neg (by simp)]
    simp
   ·rw [kS,if_neg c,a]; rfl
   ·rw [List.count_cons_of_ne (fun z=>c z)]; exact e
theorem uQ {p:aM}(E:p.length≤1048576):Z30 p str6=some (fL p):=by
 have hc:p.count 44≤p.length:=List.count_le_length
 have m:(if (aH ((p.length:Int)+1))<((p.count 44+1:Nat):Int) then (aH ((p.length:Int)+1)) else ((p.count 44+1:Nat):Int))=((p.count 44+1:Nat):Int):=by
  rw [bX (by unfold bZ; omega),if_neg (by omega)]
 have hw:aH (((p.count 44+1:Nat):Int) - 1)=(p.count 44:Int):=by rw [bA (by omega) (by omega)]; omega
 unfold Z30 Z0h
 rw [if_neg (by decide),if_neg (by simp [str6]),if_pos (by decide)]
 have h:Z39 p str6=some (p.count 44:Int):=rfl
 rw [h]
 simp only [Option.bind_some]
 rw [bX (by unfold bZ; omega)]
 unfold Z0h_J2
 rw [m,if_pos (by omega),Int.toNat_natCast]
 obtain ⟨e,I,O⟩:=hW (f:=fun s:aM×List aM×Int=>Z0h_L1 p str6 0 ((p.count 44+1:Nat):Int) s.1 s.2.1 s.2.2)
  (fun j s=>s.2.2=(j:Int)∧s.2.1.length=p.count 44+1∧s.2.1.take j++fL s.1=fL p∧s.1.count 44+j=p.count 44∧s.1.length≤1048576) (p.count 44)
  (Post:=fun e=>e.2.2=(p.count 44:Int)∧e.2.1.length=p.count 44+1∧e.2.1.take (p.count 44)++[e.1]=fL p)
  (fun j s Z q=>by
   obtain ⟨x,a,i⟩:=s
   obtain ⟨h1,h2,b,B,u⟩:=q
   simp only at h1 h2 b B u
   subst h1
   obtain ⟨g,r,g1,D,T,Y⟩:=vN (x:=x) (by omega)
   have U:x.length=g.length+1+r.length:=by rw [g1]; simp; omega
   have F:Z2c x str6=some (g.length:Int):=by
    unfold Z2c cI
    rw [if_pos (by omega),D]; rfl
   have J:aH ((g.length:Int)+0)=(g.length:Int):=by rw [bA (by omega) (by omega)]; omega
   have G:aH ((g.length:Int)+((str6.length:Nat):Int))=((g.length+1:Nat):Int):=by
    show aH ((g.length:Int)+1)=_
    exact bX (by unfold bZ; omega)
   refine ⟨(r,a.set j g,((j+1:Nat):Int)),?_,rfl,by simpa using h2,?_,by show r.count 44+(j+1)=_; omega,by show r.length≤_; omega⟩
   ·simp only [Z0h_L1]
    rw [m,hw,if_pos (by simp; omega),F]
    simp only [Option.bind_some]
    rw [if_neg (by simp),J,if_pos (by omega),if_pos (by simp; omega)]
    have L:sub x 0 (g.length:Int)=g:=by rw [kN,g1]; simp
    have M:sub x ((g.length+1:Nat):Int) (x.length:Int)=r:=by rw [hD,Int.toNat_natCast,g1,List.drop_append]; simp
    rw [G,L,Int.toNat_natCast]
    simp only [nm,Option.bind_some]
    rw [if_pos (by omega),M,bX (by unfold bZ; omega)]
   ·rw [← b,T,List.take_set]
    have l:j<a.length:=by omega
    rw [List.take_succ_eq_append_getElem l,List.set_append_right _ _ (by simp; omega)]
    simp [Nat.min_eq_left (Nat.le_of_lt l)]
    )
  (fun s q=>by
   obtain ⟨x,a,i⟩:=s
   obtain ⟨h1,h2,b,B,u⟩:=q
   simp only at h1 h2 b B u
   subst h1
   rw [xt (by omega)] at b
   refine ⟨(x,a,(p.count 44:Int)),?_,rfl,h2,b⟩
   simp only [Z0h_L1]
   rw [m,hw,if_neg (by simp)])
  (s:=(p,List.replicate (p.count 44+1) [],0)) ⟨rfl,by simp,by simp,by simp,E⟩
 rw [I]
 obtain ⟨x,a,i⟩:=e
 obtain ⟨h1,h2,b⟩:=O
 simp only at h1 h2 b
 subst h1
 simp only [Option.bind_some,Z0h_J3]
 rw [m,if_pos (by simp; omega),bX (by unfold bZ; omega),if_pos (by simp; omega),Int.toNat_natCast]
 simp only [Option.bind_some]
 congr 1
 rw [kN,List.take_set,← b]
 have l:p.count 44<a.length:=by omega
 rw [List.take_succ_eq_append_getElem l,List.set_append_right _ _ (by simp; omega)]
 simp [Nat.min_eq_left (Nat.le_of_lt l)]
def OL (gs:List aM)(o:aM)(i:Nat):Prop:=(∃ g∈gs,ix o (i:Int)∈g)∧ix o (i:Int) ∉ o.take i
instance (gs:List aM)(o:aM)(i:Nat):Decidable (OL gs o i):=by unfold OL; infer_instance
def PO (gs:List aM)(o:aM):Prop:=gs.length≤6∧LT o∧(∀ g∈gs,LT g)∧∀ i∈List.range o.length,OL gs o i
instance (gs:List aM)(o:aM):Decidable (PO gs o):=by unfold PO; infer_instance
def parts (form:aM):List aM×aM×Bool:=match pq form with
 | none=>([],[],false)
 | some p=>if PO (fL p.1) p.2 then (fL p.1,p.2,true) else ([],[],false)
theorem Bg {form:aM}(i:form.length≤1048576):aR (fun s:Int=>Z0_L1 form s) 0=some (ce form:Int):=by
 have w:∀ j:Nat,j≤1048576→aH ((j:Int)+1)=((j+1:Nat):Int)∧aH ((j:Int)+2)=((j+2:Nat):Int):=by
  intro j g
  exact ⟨bX (by unfold bZ; omega),by rw [bA (by omega) (by omega)]; omega⟩
 have e:∀ j:Nat,sub form (j:Int) ((j+2:Nat):Int)=(form.drop j).take 2:=by
  intro j
  unfold sub
  rw [Int.toNat_natCast,Int.toNat_natCast,List.drop_take]
  congr 1; omega
 have h:ce form≤form.length:=by
  by_cases c:ce form=0
  ·omega
  ·have:=(qp (s:=form) (j:=ce form - 1) (by omega)).1; omega
 refine eT (f:=fun s:Int=>Z0_L1 form s) (fun j=>(j:Int)) (ce form) (fun j g=>?_) ?_ rfl
 ·obtain ⟨a,b⟩:=qp g
  simp only [Z0_L1]
  rw [(w j (by omega)).1,(w j (by omega)).2,e,if_pos (fun _=>by omega),if_pos]
  simp only [Bool.and_eq_true,decide_eq_true_eq,Bool.not_eq_true',beq_eq_false_iff_ne]
  exact ⟨by omega,b⟩
 ·simp only [Z0_L1]
  rw [(w _ (by omega)).1,(w _ (by omega)).2,e]
  by_cases c:ce form+1<form.length
  ·rw [if_pos (fun _=>by omega),if_neg]
   rw [vM c]; simp [str0]
  ·rw [if_pos (fun z=>by simp at z; omega),if_neg]
   simp only [Bool.and_eq_true,decide_eq_true_eq]
   omega
theorem th {form l o:aM}(U:form.length≤1048576)(h:pq form=some (l,o)):aR (fun s:List aM×Int×Int=>Z0_L2 form (l.length:Int) s.1 s.2.1 s.2.2) ([],0,0)=some (fL l):=by
 obtain ⟨Z,G⟩:=kR h
 have hl:form.length=l.length+2+o.length:=by rw [G]; simp; omega
 obtain ⟨r,O,T⟩:=hW (f:=fun s:List aM×Int×Int=>Z0_L2 form (l.length:Int) s.1 s.2.1 s.2.2)
  (fun j s=>s.2.2=(j:Int)∧s.1.length≤j∧((∃ F:Nat,F≤j∧s.2.1=(F:Int)∧j≤l.length∧s.1++pre ((l.take j).drop F) (fL (l.drop j))=fL l)∨(j=l.length+1∧s.1=fL l))) (l.length+1)
  (Post:=fun r=>r=fL l)
  (fun j s Y B=>by
   obtain ⟨gs,g,i⟩:=s
   obtain ⟨h1,h2,u⟩:=B
   simp only at h1 h2 u
   subst h1
   rcases u with ⟨F,f1,J,I,e⟩|⟨q,_⟩
   ·subst J
    have L:sub form (F:Int) (j:Int)=(l.take j).drop F:=by
     unfold sub
     rw [Int.toNat_natCast,Int.toNat_natCast,G,List.take_append_of_le_length I]
    simp only [Z0_L2]
    rw [if_pos (by simp; omega),if_pos (fun _=>by omega)]
    by_cases c:j=l.length
    ·rw [if_pos (by simp [c]),if_pos (by omega),L,if_pos (by simp; omega)]
     simp only [Z0_J3]
     refine ⟨_,by rw [bX (by unfold bZ; omega)],rfl,by simp; omega,.inr ⟨by omega,?_⟩⟩
     subst c
     rw [List.drop_length] at e
     simpa [fL,pre] using e
    ·have m:j<l.length:=by omega
     have M:l.drop j=l[j]::l.drop (j+1):=List.drop_eq_getElem_cons m
     have D:(bt form (j:Int)==44)=decide (l[j]=44):=by
      have:ix form (j:Int)=l[j]:=by
       rw [bU (by omega)]
       simp only [G]
       rw [List.getElem_append_left m]
      unfold bt
      rw [this]
      have:=kQ (a:=l[j]) (b:=44)
      simpa using this
     have E:((j:Int)==(l.length:Int))=false:=by simp; omega
     rw [D,E,Bool.false_or]
     rw [M,kS] at e
     by_cases q:l[j]=44
     ·rw [decide_eq_true q,if_pos rfl,if_pos (by omega),L,if_pos (by simp; omega)]
      simp only [Z0_J3]
      rw [bX (by unfold bZ; omega)]
      refine ⟨_,rfl,rfl,by simp; omega,.inl ⟨j+1,Nat.le_refl _,rfl,by omega,?_⟩⟩
      rw [if_pos q] at e
      have z:List.drop (j+1) (List.take (j+1) l)=[]:=List.drop_of_length_le (by simp; omega)
      rw [z,qq (l9 _),← e]
      simp [pre]
     ·rw [decide_eq_false q,if_neg (by simp)]
      simp only [Z0_J3]
      rw [bX (by unfold bZ; omega)]
      refine ⟨_,rfl,rfl,by show gs.length≤_; omega,.inl ⟨F,by omega,rfl,by omega,?_⟩⟩
      rw [if_neg q,uN] at e
      rw [← e,List.take_succ_eq_append_getElem m,List.drop_append_of_le_length (by simp; omega)]
   ·omega)
  (fun s B=>by
   obtain ⟨gs,g,i⟩:=s
   obtain ⟨h1,h2,u⟩:=B
   simp only at h1 h2 u
   subst h1
   rcases u with ⟨F,f1,J,I,e⟩|⟨_,q⟩
   ·omega
   ·refine ⟨gs,?_,q⟩
    simp only [Z0_L2]
    rw [if_neg (by simp; omega)])
  (s:=([],0,0)) ⟨rfl,by simp,.inl ⟨0,by omega,rfl,by omega,by simp [qq (l9 l)]⟩⟩
 rw [O,T]
theorem pu {s g:aM}(h:g∈fL s):g.length≤s.length:=by
 induction s generalizing g with
 | nil=>simp [fL] at h; simp [h]
 | cons x r ih =>
  rw [kS] at h
  by_cases c:x=44
  ·rw [if_pos c] at h
   rcases List.mem_cons.1 h with q | q
   ·simp [q]
   ·have:=ih q; simp; omega
  ·rw [if_neg c] at h
   cases e:fL r with
   | nil=>exact absurd e (l9 r)
   | cons g' gs =>
    rw [e] at h ih
    simp only [pre,List.mem_cons] at h
    rcases h with q | q
    ·have:=ih (g:=g') (by simp); rw [q]; simp; omega
    ·have:=ih (g:=g) (by simp [q]); simp; omega
theorem zL {gs:List aM}{o:aM}{form:aM}{x i:Int}(m:gs.length<bZ)(r:∀ g∈gs,g.length<bZ)(l:sub form (aH (x+2)) (form.length:Int)=o)(e:0≤i∧i<(o.length:Int)) :
  aR (fun s:Bool×Int=>Z0_L5 form x gs i s.1 s.2) (false,0)=some (decide (∃ g∈gs,ix o i∈g)):=by
 have h:∀ b:Bool,decide (∃ g∈gs,ix o i∈g)=gs.any fun g=>decide (ix o i∈g):=by
  intro _
  rw [Bool.eq_iff_iff]; simp
 rw [h true]
 refine eT (f:=fun s:Bool×Int=>Z0_L5 form x gs i s.1 s.2) (fun j=>((gs.take j).any fun g=>decide (ix o i∈g),(j:Int))) gs.length (fun j a=>?_) ?_ rfl
 ·simp only [Z0_L5]
  rw [l,if_pos (by simp; omega),if_pos (fun _=>by omega),if_pos (fun _=>e),List.take_succ_eq_append_getElem a,List.any_append,bX (by omega),bU a]
  have q:bt o i=((ix o i).toNat:Int):=rfl
  rw [q,vL (r _ (List.getElem_mem a))]
  cases (gs.take j).any fun g=>decide (ix o i∈g) with
  | true=>simp [bP]
  | false=>simp [bP]
 ·simp only [Z0_L5]
  rw [if_neg (by simp),List.take_length]
theorem uR {form:aM}(D:form.length≤1048576):Z0 form=some (parts form):=by
 unfold Z0
 rw [Bg D]
 simp only [Option.bind_some,Z0_J1]
 unfold parts
 have J:ce form≤form.length:=by
  by_cases c:ce form=0
  ·omega
  ·have:=(qp (s:=form) (j:=ce form - 1) (by omega)).1; omega
 rw [bX (by unfold bZ; omega)]
 cases h:pq form with
 | none =>
  have:=qo h
  rw [if_pos (by simp; omega)]
 | some p =>
  obtain ⟨l,o⟩:=p
  obtain ⟨L,E⟩:=kR h
  have M:form.length=l.length+2+o.length:=by rw [E]; simp; omega
  rw [if_neg (by simp; omega),L,th D h]
  simp only [Option.bind_some]
  have F:aH ((l.length:Int)+2)=((l.length+2:Nat):Int):=by rw [bA (by omega) (by omega)]; omega
  have b:sub form (aH ((l.length:Int)+2)) (form.length:Int)=o:=by
   rw [F,hD,Int.toNat_natCast,E,List.drop_append]
   simp
  have u:(fL l).length<bZ:=by
   rw [uO]; have:l.count 44≤l.length:=List.count_le_length; unfold bZ; omega
  unfold Z0_J4
  rw [b,if_pos (by rw [F]; omega),ne (by unfold bZ; omega)]
  by_cases c1:(fL l).length≤6
  ·have d1:decide (((fL l).length:Int)>6)=false:=by simp; omega
   rw [d1]
   simp only [bP,Bool.not_false,cond_true,Option.bind_some,Bool.false_or]
   by_cases c2:LT o
   ·rw [decide_eq_true c2,if_neg (by simp)]
    have m:=eM (fL l) (fun s:Int=>Z0_L3 (fL l) s) (fun i=>i) (fun g=>decide (LT g)) (.inl ([],[],false)) (.inr ())
     (fun k G=>by
      simp only [Z0_L3]
      rw [if_pos (by simp; omega),if_pos (by omega),bX (by omega),ne (by have:=pu (bF G); unfold bZ; omega)]
      cases decide (LT (ix (fL l) (k:Int)))<;>rfl)
     (by simp only [Z0_L3]; rw [if_neg (by simp)])
    rw [m]
    by_cases c3:∀ g∈fL l,LT g
    ·have e:((fL l).all fun g=>decide (LT g))=true:=by
      rw [List.all_eq_true]; intro g a; exact decide_eq_true (c3 g a)
     rw [e,if_pos rfl]
     simp only [Option.bind_some]
     unfold Z0_J5
     have B:=j5 o.length (fun s:Int=>Z0_L4 form (l.length:Int) (fL l) s) (fun i=>i) (fun k=>decide (OL (fL l) o k)) (.inl ([],[],false)) (.inr ())
      (fun k G=>by
       simp only [Z0_L4]
       rw [b,if_pos (by simp; omega),zL u (fun g a=>by have:=pu a; unfold bZ; omega) b (by omega)]
       simp only [Option.bind_some,Z0_J7]
       rw [b,if_pos (fun _=>by omega),if_pos (fun _=>by omega),kN]
       have r:bt o (k:Int)=((ix o (k:Int)).toNat:Int):=rfl
       rw [r,vL (by simp; unfold bZ; omega),bX (by unfold bZ; omega)]
       by_cases q1:∃ g∈fL l,ix o (k:Int)∈g
       ·by_cases q2:ix o (k:Int)∈o.take k
        ·rw [decide_eq_true q1,decide_eq_true q2,decide_eq_false (fun z:OL (fL l) o k=>z.2 q2)]; rfl
        ·rw [decide_eq_true q1,decide_eq_false q2,show decide (OL (fL l) o k)=true from decide_eq_true ⟨q1,q2⟩]; rfl
       ·rw [decide_eq_false q1,decide_eq_false (fun z:OL (fL l) o k=>q1 z.1)]; rfl)
      (by simp only [Z0_L4]; rw [b,if_neg (by simp)])
     rw [B]
     by_cases c4:∀ i∈List.range o.length,OL (fL l) o i
     ·have q:((List.range o.length).all fun k=>decide (OL (fL l) o k))=true:=by
       rw [List.all_eq_true]; intro g a; exact decide_eq_true (c4 g a)
      rw [q,if_pos rfl,if_pos ⟨c1,c2,c3,c4⟩]
      simp only [Option.bind_some,Z0_J8]
      rw [b]
     ·have q:((List.range o.length).all fun k=>decide (OL (fL l) o k))=false:=by
       rw [Bool.eq_false_iff]; intro z
       exact c4 fun i I=>of_decide_eq_true (List.all_eq_true.1 z i I)
      rw [q,if_neg (by simp),if_neg (fun z=>c4 z.2.2.2)]; rfl
    ·have e:((fL l).all fun g=>decide (LT g))=false:=by
      rw [Bool.eq_false_iff]; intro z
      exact c3 fun g a=>of_decide_eq_true (List.all_eq_true.1 z g a)
     rw [e,if_neg (by simp),if_neg (fun z=>c3 z.2.2.1)]; rfl
   ·rw [decide_eq_false c2,if_pos (by simp),if_neg (fun z=>c2 z.2.1)]
  ·have d1:decide (((fL l).length:Int)>6)=true:=by simp; omega
   rw [d1,if_neg (fun z=>c1 z.1)]
   simp [bP]
theorem zM {form:aM}(i:form.length≤1048576):Z2z form str0=some (match pq form with | none=>(form,[],false) | some p=>(p.1,p.2,true)):=by
 unfold Z2z dU cI
 rw [if_pos (by omega),nf]
 simp only [Option.bind_some]
 cases h:pq form with
 | none=>simp
 | some p =>
  obtain ⟨l,o⟩:=p
  obtain ⟨j,a⟩:=kR h
  have m:form.length=l.length+2+o.length:=by rw [a]; simp; omega
  have e:aH ((l.length:Int)+((str0.length:Nat):Int))=((l.length+2:Nat):Int):=by
   show aH ((l.length:Int)+2)=_
   rw [bA (by omega) (by omega)]; omega
  simp only
  rw [if_pos (by simp),if_pos (by omega),e,if_pos (by omega)]
  have g:sub form 0 (l.length:Int)=l:=by rw [kN,a]; simp
  have b:sub form ((l.length+2:Nat):Int) (form.length:Int)=o:=by
   rw [hD,Int.toNat_natCast,a,List.drop_append]; simp
  rw [g,b]; rfl
theorem uS {gs:List aM}{x:Nat}(e:x<gs.length)(h:(ix gs (x:Int)).length<bZ) :
  aR (fun s:Int=>Zc_L2 gs (x:Int) s) 0=some (if ∀ c∈ix gs (x:Int),97≤c.toNat∧c.toNat≤122 then .inr () else .inl ([],[],false)):=by
 obtain ⟨g,a⟩:∃ g,g=ix gs (x:Int):=⟨_,rfl⟩
 have:=eM g (fun s:Int=>Zc_L2 gs (x:Int) s) (fun i=>i) (fun c=>decide (97≤c.toNat∧c.toNat≤122)) (.inl ([],[],false)) (.inr ())
  (fun k j=>by
   have b:bt g (k:Int)=((ix g (k:Int)).toNat:Int):=rfl
   simp only [Zc_L2]
   rw [← a,if_pos (by simp; omega),if_pos (by omega),bX (by rw [← a] at h; omega)]
   by_cases q:97≤(ix g (k:Int)).toNat∧(ix g (k:Int)).toNat≤122
   ·rw [if_neg (by simp only [Bool.or_eq_true,decide_eq_true_eq,b]; omega),decide_eq_true q,if_pos rfl]
   ·rw [if_pos (by simp only [Bool.or_eq_true,decide_eq_true_eq,b]; omega),decide_eq_false q,if_neg (by simp)])
  (by simp only [Zc_L2]; rw [← a,if_neg (by simp)])
 rw [this,← a]
 by_cases c:∀ c∈g,97≤c.toNat∧c.toNat≤122
 ·rw [if_pos c,if_pos (by rw [List.all_eq_true]; intro x e; exact decide_eq_true (c x e))]
 ·rw [if_neg c,if_neg]
  intro z
  exact c fun x e=>of_decide_eq_true (List.all_eq_true.1 z x e)
theorem uT {form:aM}(O:form.length≤1048576):Zc form=some (parts form):=by
 unfold Zc parts
 rw [zM O]
 simp only [Option.bind_some]
 cases h:pq form with
 | none=>simp
 | some p =>
  obtain ⟨l,o⟩:=p
  obtain ⟨Y,U⟩:=kR h
  have Z:form.length=l.length+2+o.length:=by rw [U]; simp; omega
  simp only [Bool.not_true,Bool.false_or]
  by_cases c0:o.length≤6
  ·rw [if_neg (by simp; omega),uQ (by omega)]
   simp only [Option.bind_some]
   by_cases c1:(fL l).length≤6
   ·rw [if_neg (by simp; omega)]
    have F:=eM (fL l) (fun s:Int=>Zc_L1 (fL l) s) (fun i=>i) (fun g=>decide (LT g)) (.inl ([],[],false)) (.inr ())
     (fun k b=>by
      have j:=pu (bF b)
      simp only [Zc_L1]
      rw [if_pos (by simp; omega),if_pos (by omega)]
      by_cases q1:(ix (fL l) (k:Int)).length≤6
      ·rw [if_neg (by simp; omega),uS b (by unfold bZ; omega)]
       by_cases q2:∀ c∈ix (fL l) (k:Int),97≤c.toNat∧c.toNat≤122
       ·rw [if_pos q2,show decide (LT (ix (fL l) (k:Int)))=true from decide_eq_true ⟨q1,q2⟩,if_pos rfl]
        simp only [Option.bind_some,Zc_J2]
        rw [bX (by unfold bZ; omega)]
       ·rw [if_neg q2,show decide (LT (ix (fL l) (k:Int)))=false from decide_eq_false (fun z=>q2 z.2),if_neg (by simp)]; rfl
      ·rw [if_pos (by simp; omega),show decide (LT (ix (fL l) (k:Int)))=false from decide_eq_false (fun z=>q1 z.1),if_neg (by simp)])
     (by simp only [Zc_L1]; rw [if_neg (by simp)])
    rw [F]
    by_cases c3:∀ g∈fL l,LT g
    ·have r:((fL l).all fun g=>decide (LT g))=true:=by
      rw [List.all_eq_true]; intro g j; exact decide_eq_true (c3 g j)
     rw [r,if_pos rfl]
     simp only [Option.bind_some]
     unfold Zc_J3
     have u:=j5 o.length (fun s:Int=>Zc_L3 (l,o,true) s) (fun i=>i) (fun k=>decide ((97≤(ix o (k:Int)).toNat∧(ix o (k:Int)).toNat≤122)∧OL (fL l) o k)) (.inl ([],[],false)) (.inr ())
      (fun k b=>by
       have a:bt o (k:Int)=((ix o (k:Int)).toNat:Int):=rfl
       simp only [Zc_L3]
       rw [if_pos (by simp; omega),if_pos (by omega),bX (by unfold bZ; omega),kN]
       by_cases q:97≤(ix o (k:Int)).toNat∧(ix o (k:Int)).toNat≤122
       ·have E:(decide (bt o (k:Int)<97)||decide (bt o (k:Int)>122))=false:=by
         rw [Bool.eq_false_iff]; simp only [ne_eq,Bool.or_eq_true,decide_eq_true_eq,a]; omega
        rw [E,if_pos (fun _=>by omega)]
        have D:ix o (k:Int)≠44:=by
         intro z; rw [z] at q; exact absurd q (by decide)
        obtain ⟨m,M,I⟩:=nN (o.take k) (ix o (k:Int))
        obtain ⟨J,T,s3⟩:=nN l (ix o (k:Int))
        rw [a,M,T]
        simp only [bP,Bool.not_false,cond_true,Option.bind_some,Bool.false_or]
        rw [← uP l _ D] at s3
        by_cases q2:ix o (k:Int)∈o.take k
        ·have:decide (m≥0)=true:=by
          rw [decide_eq_true_eq]
          have:¬ m<0:=fun z=>I.1 z q2
          omega
         rw [this,decide_eq_false (fun z=>z.2.2 q2)]; rfl
        ·have:decide (m≥0)=false:=by
          rw [decide_eq_false_iff_not]
          have:=I.2 q2
          omega
         rw [this]
         simp only [Bool.not_false,cond_true,Option.bind_some,Bool.false_or]
         by_cases q3:∃ g∈fL l,ix o (k:Int)∈g
         ·have:decide (J<0)=false:=by
           rw [decide_eq_false_iff_not]
           exact fun z=>s3.1 z q3
          rw [this,decide_eq_true ⟨q,q3,q2⟩]; rfl
         ·have:decide (J<0)=true:=decide_eq_true (s3.2 q3)
          rw [this,decide_eq_false (fun z=>q3 z.2.1)]; rfl
       ·have E:(decide (bt o (k:Int)<97)||decide (bt o (k:Int)>122))=true:=by
         simp only [Bool.or_eq_true,decide_eq_true_eq,a]; omega
        rw [E,if_pos (fun z=>by cases z),decide_eq_false (fun z=>q z.1)]
        rfl)
      (by simp only [Zc_L3]; rw [if_neg (by simp)])
     rw [u]
     by_cases c4:PO (fL l) o
     ·have B:((List.range o.length).all fun k=>decide ((97≤(ix o (k:Int)).toNat∧(ix o (k:Int)).toNat≤122)∧OL (fL l) o k))=true:=by
       rw [List.all_eq_true]; intro k b
       exact decide_eq_true ⟨c4.2.1.2 _ (bF (List.mem_range.1 b)),c4.2.2.2 k b⟩
      rw [B,if_pos rfl,if_pos c4]; rfl
     ·have B:((List.range o.length).all fun k=>decide ((97≤(ix o (k:Int)).toNat∧(ix o (k:Int)).toNat≤122)∧OL (fL l) o k))=false:=by
       rw [Bool.eq_false_iff]; intro z
       have G:=List.all_eq_true.1 z
       refine c4 ⟨c1,⟨c0,fun c L=>?_⟩,c3,fun i e=>(of_decide_eq_true (G i e)).2⟩
       obtain ⟨i,e,rfl⟩:=List.mem_iff_getElem.1 L
       have:=(of_decide_eq_true (G i (List.mem_range.2 e))).1
       rwa [bU e] at this
      rw [B,if_neg (by simp),if_neg c4]; rfl
    ·have r:((fL l).all fun g=>decide (LT g))=false:=by
      rw [Bool.eq_false_iff]; intro z
      exact c3 fun g j=>of_decide_eq_true (List.all_eq_true.1 z g j)
     rw [r,if_neg (by simp),if_neg (fun z=>c3 z.2.2.1)]; rfl
   ·rw [if_pos (by simp; omega),if_neg (fun z=>c1 z.1)]
  ·rw [if_pos (by simp; omega),if_neg (fun z=>c0 z.2.1.1)]
def pw {S:Type}(st:S→Nat→Option S):Nat→S→Option S
 | 0,s=>some s
 | n+1,s=>(pw st n s).bind fun s'=>st s' n
theorem j7 {S T A B:Type}{f:T→Option (T⊕(A⊕B))}(st:S→Nat→Option S)(mk:S→Int→T)(i:S→B)(e:A→Prop)(a:Nat→S→Prop)(n:Nat)
  (h1:∀ j s,j<n→a j s→(∃ s',st s j=some s'∧f (mk s (j:Int))=some (.inl (mk s' ((j+1:Nat):Int)))∧a (j+1) s')∨(st s j=none∧∃ b,f (mk s (j:Int))=some (.inr (.inl b))∧e b))
  (h2:∀ s,a n s→f (mk s (n:Int))=some (.inr (.inr (i s)))) {s:S} (E:a 0 s) :
  (∃ s',pw st n s=some s'∧aR f (mk s 0)=some (.inr (i s'))∧a n s')∨(pw st n s=none∧∃ b,aR f (mk s 0)=some (.inl b)∧e b):=by
 have m:∀ j,j≤n→(∃ s',pw st j s=some s'∧aR f (mk s 0)=aR f (mk s' (j:Int))∧a j s')∨(pw st j s=none∧∃ b,aR f (mk s 0)=some (.inl b)∧e b):=by
  intro j
  induction j with
  | zero=>intro _; exact .inl ⟨s,rfl,rfl,E⟩
  | succ j ih =>
   intro F
   rcases ih (by omega) with ⟨s',h,g,a3⟩|⟨h,g⟩
   ·rcases h1 j s' (by omega) a3 with ⟨D,r,l,u⟩|⟨r,b,l,u⟩
    ·exact .inl ⟨D,by rw [pw,h]; exact r,by rw [g,eC l],u⟩
    ·exact .inr ⟨by rw [pw,h]; exact r,b,by rw [g,cX l],u⟩
   ·exact .inr ⟨by rw [pw,h]; rfl,g⟩
 rcases m n (Nat.le_refl _) with ⟨s',h,g,a3⟩ | q
 ·exact .inl ⟨s',h,by rw [g,cX (h2 s' a3)],a3⟩
 ·exact .inr q
def lk (lens:List Int)(c:UInt8):Int:=ix lens ((c.toNat:Int) - 97)
def kT (s:aM×List Int)(c:UInt8)(d:Int):Option (aM×List Int) :=
 if lk s.2 c≠0∧lk s.2 c≠d then none else some (if c∈s.1 then s.1 else s.1++[c],s.2.set (c.toNat - 97) d)
def la (g:aM)(ds:List Int)(s:aM×List Int):Option (aM×List Int) :=
 if g.length=ds.length then pw (fun s k=>kT s (ix g (k:Int)) (ix ds (k:Int))) g.length s else none
def mU (gs:List aM)(dss:List (List Int))(s:aM×List Int):Option (aM×List Int):=pw (fun s k=>la (ix gs (k:Int)) (ix dss (k:Int)) s) gs.length s
end Go.Proofs.YtmpnollfdpdipaaGreat
