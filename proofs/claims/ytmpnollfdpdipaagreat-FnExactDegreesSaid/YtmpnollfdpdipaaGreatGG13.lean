import Derived.Test.YtmpnollfdpdipaaGreatGG1
import Derived.KernelRfl
set_option linter.unusedVariables false
set_option linter.unusedSimpArgs false
namespace Go.Proofs.YtmpnollfdpdipaaGreat
open Go Go.Pg
theorem xb {ds is:List Int}{j:Nat}{m x:Int}(a:j<ds.length)(h:IV (ds.set j m) is)(b:0≤x)(h1:x<ix ds (j:Int)):IV ds (is.set j x):=by
 induction ds generalizing is j with
 | nil=>simp at a
 | cons d ds ih=>cases j with
  | zero=>cases is with
   | nil=>exact h.elim
   | cons i is=>exact ⟨⟨b,h1⟩,h.2⟩
  | succ j=>cases is with
   | nil=>exact h.elim
   | cons i is=>rw [dK] at h1; exact ⟨h.1,ih (by simpa using a) h.2 h1⟩
theorem l' {ds is:List Int}{j:Nat}{m x:Int}(a:j<ds.length)(h:IV ds is)(b:0≤x)(h1:x<m):IV (ds.set j m) (is.set j x):=by
 induction ds generalizing is j with
 | nil=>simp at a
 | cons d ds ih=>cases j with
  | zero=>cases is with
   | nil=>exact h.elim
   | cons i is=>exact ⟨⟨b,h1⟩,h.2⟩
  | succ j=>cases is with
   | nil=>exact h.elim
   | cons i is=>exact ⟨h.1,ih (by simpa using a) h.2⟩
theorem qx {ds is:List Int}(h:IV ds is)(k:Nat):IV (ds.take k) (is.take k):=by
 induction ds generalizing is k with
 | nil=>cases is with
  | nil=>simp [IV]
  | cons=>exact h.elim
 | cons d ds ih=>cases is with
  | nil=>exact h.elim
  | cons i is=>cases k with
   | zero=>simp [IV]
   | succ k=>exact ⟨h.1,ih h.2 k⟩
def mz (ds:List Int)(a:Int)(xs:List Int):Prop:=0≤a∧a<(ds.length:Int)∧xs≠[]∧(∀ x∈xs,0≤x∧x<ix ds a)∧eG (ds.set a.toNat (xs.length:Int))
instance (ds:List Int)(a:Int)(xs:List Int):Decidable (mz ds a xs):=by unfold mz; infer_instance
def lG (ds:List Int)(a:Int)(xs:List Int)(n:Int):Prop:=0≤a∧a<(ds.length:Int)∧(xs.length:Int)=ix ds a∧(∀ x∈xs,0≤x∧x<n)∧eG (ds.set a.toNat n)
instance (ds:List Int)(a:Int)(xs:List Int)(n:Int):Decidable (lG ds a xs n):=by unfold lG; infer_instance
def jF (ds:List Int)(a b f g:Int):Int:=b+ix ds a+(ix ds a - 1)*g+f
def mA (ds:List Int)(a b f g:Int):Prop:=0≤a∧a<(ds.length:Int)∧0≤b∧b≤4096∧0≤f∧f≤4096∧0≤g∧g≤4096∧eG (ds.set a.toNat (jF ds a b f g))
instance (ds:List Int)(a b f g:Int):Decidable (mA ds a b f g):=by unfold mA; infer_instance
theorem kL {t:Tensor}(h:TT t)(a:Int):Z1i t a=some (decide (0≤a∧a<(t.Dims.length:Int))):=by
 unfold Z1i
 rw [px h]
 simp only [Option.bind_some,Bool.true_and]
 congr 1
 rw [Bool.eq_iff_iff]
 simp
theorem jt {xs:List Int}(h:xs.length≤6){j:Nat}(a:j<xs.length)(x:Int):Z0j xs (j:Int) x=some (xs.set j x):=by
 unfold Z0j
 rw [hO (by omega)]
 simp only [Option.bind_some]
 rw [if_pos (by omega),Int.toNat_natCast]
theorem jQ {xs:List Int}(g:xs.length<b')(n:Int):Z0k xs n=some (decide (∀ x∈xs,0≤x∧x<n)):=by
 unfold Z0k
 have:=eP xs (fun s:Int=>Z0k_L1 xs n s) (fun i=>i) (fun x=>!(decide (x<0)||decide (x≥n))) (.inl false) (.inr ())
  (fun k b=>by
   simp only [Z0k_L1]
   rw [if_pos (by simp; omega),if_pos (by omega),bW (by omega)]
   cases (decide (ix xs (k:Int)<0)||decide (ix xs (k:Int)≥n))<;>rfl)
  (by simp only [Z0k_L1]; rw [if_neg (by simp)])
 rw [this]
 have e:(xs.all fun x=>!(decide (x<0)||decide (x≥n)))=decide (∀ x∈xs,0≤x∧x<n):=by
  rw [Bool.eq_iff_iff]
  simp only [List.all_eq_true,decide_eq_true_eq,Bool.not_eq_true',Bool.or_eq_false_iff,decide_eq_false_iff_not]
  exact ⟨fun h x a=>by have:=h x a; omega,fun h x a=>by have:=h x a; omega⟩
 rw [e]
 by_cases c:∀ x∈xs,0≤x∧x<n
 ·rw [decide_eq_true c]; rfl
 ·rw [decide_eq_false c]; rfl
theorem t2 {t:Tensor}(h:TT t){a:Int}{xs:List Int}(O:xs.length<b') :
  (mz t.Dims a xs→∃ d,Z0u t a xs=some ⟨t.Dims.set a.toNat (xs.length:Int),d⟩∧TOk (t.Dims.set a.toNat (xs.length:Int)) d)∧(¬ mz t.Dims a xs→Z0u t a xs=some ⟨[],[]⟩):=by
 have F:=kp h
 unfold Z0u
 rw [kL h]
 simp only [Option.bind_some]
 by_cases g:(0≤a∧a<(t.Dims.length:Int))∧xs≠[]
 ·obtain ⟨g1,D⟩:=g
  have Z:xs.length≠0:=fun e=>D (List.eq_nil_of_length_eq_zero e)
  obtain ⟨j,rfl⟩:=Int.eq_ofNat_of_zero_le g1.1
  have i:j<t.Dims.length:=by omega
  have B:(!decide (0≤(j:Int)∧(j:Int)<(t.Dims.length:Int))||(xs.length:Int)==0)=false:=by rw [decide_eq_true g1]; simp [D]
  rw [if_pos (fun _=>g1),B]
  simp only [bQ,Bool.not_false,cond_true,Bool.false_or]
  rw [jQ O]
  simp only [Option.bind_some,Int.toNat_natCast]
  by_cases g4:∀ x∈xs,0≤x∧x<ix t.Dims (j:Int)
  ·rw [decide_eq_true g4,if_neg (by simp),jt F.2 i]
   simp only [Option.bind_some]
   rw [gB (by simp [b']; omega)]
   by_cases g5:eG (t.Dims.set j (xs.length:Int))
   ·simp only [decide_eq_true g5,Option.bind_some,Bool.not_true,Bool.false_eq_true,if_false]
    refine ⟨fun _=>?_,fun q=>absurd ⟨g1.1,g1.2,D,g4,by simpa using g5⟩ q⟩
    rw [kH g5]
    simp only [Option.bind_some]
    have Y:=g5.2.2
    obtain ⟨r,L,T⟩:=kK (f:=fun s:List Int×Int=>Z0u_L1 t (j:Int) xs (t.Dims.set j (xs.length:Int)) ⟨t.Dims.set j (xs.length:Int),List.replicate (pr (t.Dims.set j (xs.length:Int))).toNat 0⟩ s.1 s.2) (Post:=fun r=>RG (pr (t.Dims.set j (xs.length:Int))).toNat r) (pr (t.Dims.set j (xs.length:Int))).toNat (pr (t.Dims.set j (xs.length:Int))).toNat
     (fun k U x E=>by
      have G:=gX g5.2.1 (k:Int)
      have b:=jr (t.Dims.set j (xs.length:Int)) (k:Int)
      have l:=G.mem (j:=j) (by rw [b]; simpa using i)
      rw [x0 i] at l
      obtain ⟨q,M⟩:=Int.eq_ofNat_of_zero_le l.1
      have m:=g4 _ (bE (xs:=xs) (k:=q) (by omega))
      have u:=xb i G m.1 m.2
      obtain ⟨y,J,I⟩:=n6 h u
      simp only [Z0u_L1]
      rw [if_pos (by simp; omega),js g5 (by omega) (by omega)]
      simp only [Option.bind_some]
      rw [if_pos (by rw [b]; simp; omega),if_pos (by omega),jt (by rw [b]; simpa using F.2) (by rw [b]; simpa using i)]
      simp only [Option.bind_some,M,J]
      rw [if_pos (by simp; omega),bW (by unfold b'; omega)]
      exact ⟨_,rfl,E.set (h.x y I) _⟩)
     (fun x E=>by simp only [Z0u_L1]; rw [if_neg (by simp)]; exact ⟨x,rfl,E⟩) (RG.rep _)
    rw [L]
    exact ⟨r,rfl,gY g5 T⟩
   ·simp only [decide_eq_false g5,Option.bind_some,Bool.not_false,if_true]
    exact ⟨fun q=>absurd (by simpa using q.2.2.2.2) g5,fun _=>by trivial⟩
  ·rw [decide_eq_false g4,if_pos (by simp)]
   exact ⟨fun q=>absurd q.2.2.2.1 g4,fun _=>by trivial⟩
 ·have B:(!decide (0≤a∧a<(t.Dims.length:Int))||(xs.length:Int)==0)=true:=by
   by_cases q:0≤a∧a<(t.Dims.length:Int)
   ·have:xs=[]:=by
     refine Classical.byContradiction fun z=>g ⟨q,z⟩
    subst this; simp
   ·rw [decide_eq_false q]; rfl
  rw [if_pos (fun q=>by rw [B] at q; cases q),B]
  simp only [bQ,Bool.not_true,cond_false,Option.bind_some,Bool.true_or,if_true]
  exact ⟨fun q=>absurd ⟨⟨q.1,q.2.1⟩,q.2.2.1⟩ g,fun _=>by trivial⟩
theorem rk {t:Tensor}(h:TT t){a n:Int}{xs:List Int}(M:xs.length<b') :
  (lG t.Dims a xs n→∃ d,Z0w t a xs n=some ⟨t.Dims.set a.toNat n,d⟩∧TOk (t.Dims.set a.toNat n) d)∧(¬ lG t.Dims a xs n→Z0w t a xs n=some ⟨[],[]⟩):=by
 have J:=kp h
 unfold Z0w
 rw [kL h]
 simp only [Option.bind_some]
 by_cases g1:0≤a∧a<(t.Dims.length:Int)
 ·obtain ⟨j,rfl⟩:=Int.eq_ofNat_of_zero_le g1.1
  have B:j<t.Dims.length:=by omega
  rw [decide_eq_true g1,if_pos (fun _=>g1)]
  simp only [bQ,Bool.not_true,Bool.false_or,Int.toNat_natCast]
  by_cases g2:(xs.length:Int)=ix t.Dims (j:Int)
  ·have i:((xs.length:Int) != ix t.Dims (j:Int))=false:=by simp [g2]
   rw [i]
   simp only [Bool.not_false,cond_true,Bool.false_or]
   rw [jQ M]
   simp only [Option.bind_some]
   by_cases g4:∀ x∈xs,0≤x∧x<n
   ·rw [decide_eq_true g4,if_neg (by simp),jt J.2 B]
    simp only [Option.bind_some]
    rw [gB (by simp [b']; omega)]
    by_cases g5:eG (t.Dims.set j n)
    ·simp only [decide_eq_true g5,Option.bind_some,Bool.not_true,Bool.false_eq_true,if_false]
     refine ⟨fun _=>?_,fun q=>absurd ⟨g1.1,g1.2,g2,g4,by simpa using g5⟩ q⟩
     rw [kH g5]
     simp only [Option.bind_some]
     have U:=h.d.2.2
     obtain ⟨r,I,T⟩:=kK (f:=fun s:List Int×Int=>Z0w_L1 t (j:Int) xs ⟨t.Dims.set j n,List.replicate (pr (t.Dims.set j n)).toNat 0⟩ s.1 s.2) (Post:=fun r=>RG (pr (t.Dims.set j n)).toNat r) (pr (t.Dims.set j n)).toNat t.Data.length
      (fun k Z x g=>by
       have D:=gX h.d.2.1 (k:Int)
       have F:=jr t.Dims (k:Int)
       have u:=D.mem (j:=j) (by omega)
       obtain ⟨q,L⟩:=Int.eq_ofNat_of_zero_le u.1
       have e:=g4 _ (bE (xs:=xs) (k:=q) (by omega))
       have b:=l' (m:=n) B D e.1 e.2
       have tk:TT ⟨t.Dims.set j n,x⟩:=gY g5 g
       obtain ⟨y,G,Y⟩:=n6 (t:=⟨t.Dims.set j n,x⟩) tk b
       obtain ⟨m,O,E⟩:=nI y (ix t.Data (k:Int))
       simp only [Z0w_L1]
       rw [if_pos (by simp; omega),js h.d (by omega) (by omega)]
       simp only [Option.bind_some]
       rw [if_pos (by omega),if_pos (by omega),jt (by omega) (by omega)]
       simp only [Option.bind_some,L,G]
       rw [if_pos (by omega),O]
       simp only [Option.bind_some]
       rw [sK (t:=⟨t.Dims.set j n,x⟩) g5 tk.l b,bW (by unfold b'; omega)]
       exact ⟨_,rfl,g.set E _⟩)
      (fun x g=>by simp only [Z0w_L1]; rw [if_neg (by simp)]; exact ⟨x,rfl,g⟩) (RG.rep _)
     rw [I]
     exact ⟨r,rfl,gY g5 T⟩
    ·simp only [decide_eq_false g5,Option.bind_some,Bool.not_false,if_true]
     exact ⟨fun q=>absurd (by simpa using q.2.2.2.2) g5,fun _=>by trivial⟩
   ·rw [decide_eq_false g4,if_pos (by simp)]
    exact ⟨fun q=>absurd q.2.2.2.1 g4,fun _=>by trivial⟩
  ·have i:((xs.length:Int) != ix t.Dims (j:Int))=true:=by simp [g2]
   rw [i]
   simp only [Bool.not_true,cond_false,Option.bind_some,Bool.true_or,if_true]
   exact ⟨fun q=>absurd q.2.2.1 g2,fun _=>by trivial⟩
 ·rw [decide_eq_false g1,if_pos (fun q=>by cases q)]
  simp only [bQ,Bool.not_false,Bool.true_or,Bool.not_true,cond_false,Option.bind_some,if_true]
  exact ⟨fun q=>absurd ⟨q.1,q.2.1⟩ g1,fun _=>by trivial⟩
theorem zS {t:Tensor}(h:TT t){a b f g:Int} :
  (mA t.Dims a b f g→∃ d,Z0v t a b f g=some ⟨t.Dims.set a.toNat (jF t.Dims a b f g),d⟩∧TOk (t.Dims.set a.toNat (jF t.Dims a b f g)) d)∧(¬ mA t.Dims a b f g→Z0v t a b f g=some ⟨[],[]⟩):=by
 have M:=kp h
 unfold Z0v
 rw [kL h]
 simp only [Option.bind_some]
 by_cases c:(0≤a∧a<(t.Dims.length:Int))∧0≤b∧b≤4096∧0≤f∧f≤4096∧0≤g∧g≤4096
 ·obtain ⟨g1,L,U,O,T,i,F⟩:=c
  obtain ⟨j,rfl⟩:=Int.eq_ofNat_of_zero_le g1.1
  have D:j<t.Dims.length:=by omega
  have hm:=h.d.2.mem (bE D)
  have k0:0≤(ix t.Dims (j:Int) - 1)*g:=Int.mul_nonneg (by omega) i
  have k1:=Int.mul_le_mul (show ix t.Dims (j:Int) - 1≤4096 by omega) F i (show (0:Int)≤4096 by omega)
  have e:aH (aH (aH (b+ix t.Dims (j:Int))+aH (aH (ix t.Dims (j:Int) - 1)*g))+f)=jF t.Dims (j:Int) b f g:=by
   rw [bC (n:=b+ix t.Dims (j:Int)) (by omega) (by omega),bC (n:=ix t.Dims (j:Int) - 1) (by omega) (by omega),bC (n:=(ix t.Dims (j:Int) - 1)*g) (by omega) (by omega),bC (n:=b+ix t.Dims (j:Int)+(ix t.Dims (j:Int) - 1)*g) (by omega) (by omega),bC (by omega) (by omega)]
   rfl
  rw [if_neg (by simp; omega),if_pos g1,e,jt M.2 D]
  simp only [Option.bind_some,Int.toNat_natCast]
  rw [gB (by simp [b']; omega)]
  by_cases g5:eG (t.Dims.set j (jF t.Dims (j:Int) b f g))
  ·simp only [decide_eq_true g5,Option.bind_some,Bool.not_true,Bool.false_eq_true,if_false]
   refine ⟨fun _=>?_,fun q=>absurd ⟨g1.1,g1.2,L,U,O,T,i,F,by simpa using g5⟩ q⟩
   rw [kH g5]
   simp only [Option.bind_some]
   have hp:=h.d.2.2
   obtain ⟨r,e1,Y⟩:=kK (f:=fun s:List Int×Int=>Z0v_L1 t (j:Int) b g ⟨t.Dims.set j (jF t.Dims (j:Int) b f g),List.replicate (pr (t.Dims.set j (jF t.Dims (j:Int) b f g))).toNat 0⟩ s.1 s.2) (Post:=fun r=>RG (pr (t.Dims.set j (jF t.Dims (j:Int) b f g))).toNat r) (pr (t.Dims.set j (jF t.Dims (j:Int) b f g))).toNat t.Data.length
    (fun k I x B=>by
     have G:=gX h.d.2.1 (k:Int)
     have J:=jr t.Dims (k:Int)
     have E:=G.mem (j:=j) (by omega)
     have z0:0≤ix (gW t.Dims (k:Int)) (j:Int)*g:=Int.mul_nonneg E.1 i
     have z1:ix (gW t.Dims (k:Int)) (j:Int)*g≤(ix t.Dims (j:Int) - 1)*g:=Int.mul_le_mul_of_nonneg_right (by omega) i
     have Z:aH (b+aH (ix (gW t.Dims (k:Int)) (j:Int)*aH (g+1)))=b+(ix (gW t.Dims (k:Int)) (j:Int)*g+ix (gW t.Dims (k:Int)) (j:Int)):=by
      rw [bC (n:=g+1) (by omega) (by omega),Int.mul_add,Int.mul_one,bC (n:=ix (gW t.Dims (k:Int)) (j:Int)*g+ix (gW t.Dims (k:Int)) (j:Int)) (by omega) (by omega),bC (by omega) (by omega)]
     have u:=l' (m:=jF t.Dims (j:Int) b f g) (x:=b+(ix (gW t.Dims (k:Int)) (j:Int)*g+ix (gW t.Dims (k:Int)) (j:Int))) D G (by omega) (by unfold jF; omega)
     have tk:TT ⟨t.Dims.set j (jF t.Dims (j:Int) b f g),x⟩:=gY g5 B
     simp only [Z0v_L1]
     rw [if_pos (by simp; omega),js h.d (by omega) (by omega)]
     simp only [Option.bind_some]
     rw [if_pos (by omega),Z,jt (by omega) (by omega)]
     simp only [Option.bind_some]
     rw [if_pos (by omega),sK (t:=⟨t.Dims.set j (jF t.Dims (j:Int) b f g),x⟩) g5 tk.l u,bW (by unfold b'; omega)]
     exact ⟨_,rfl,B.set (h.x _ (bE I)) _⟩)
    (fun x B=>by simp only [Z0v_L1]; rw [if_neg (by simp)]; exact ⟨x,rfl,B⟩) (RG.rep _)
   rw [e1]
   exact ⟨r,rfl,gY g5 Y⟩
  ·simp only [decide_eq_false g5,Option.bind_some,Bool.not_false,if_true]
   exact ⟨fun q=>absurd (by simpa using q.2.2.2.2.2.2.2.2) g5,fun _=>by trivial⟩
 ·rw [if_pos (by simp only [Bool.or_eq_true,Bool.not_eq_true',decide_eq_true_eq,decide_eq_false_iff_not]; omega)]
  exact ⟨fun q=>absurd ⟨⟨q.1,q.2.1⟩,q.2.2.1,q.2.2.2.1,q.2.2.2.2.1,q.2.2.2.2.2.1,q.2.2.2.2.2.2.1,q.2.2.2.2.2.2.2.1⟩ c,fun _=>by trivial⟩
def lH (ds:List Int)(a st n:Int):Prop:=0≤a∧a<(ds.length:Int)∧a≠(ds.length:Int) - 1∧1≤st∧1≤n∧n≤4096∧ix ds ((ds.length:Int) - 1)≤n∧(n - ix ds ((ds.length:Int) - 1)) / st+1=ix ds a∧eG ((ds.set a.toNat n).take (ds.length - 1))
instance (ds:List Int)(a st n:Int):Decidable (lH ds a st n):=by unfold lH; infer_instance
theorem kM {α:Type}(xs:List α)(k:Nat):sub xs 0 (k:Int)=xs.take k:=by simp [sub]
theorem xc {t:Tensor}(h:TT t){a st n:Int} :
  (lH t.Dims a st n→∃ d,Z0t t a st n=some ⟨(t.Dims.set a.toNat n).take (t.Dims.length - 1),d⟩∧TOk ((t.Dims.set a.toNat n).take (t.Dims.length - 1)) d)∧(¬ lH t.Dims a st n→Z0t t a st n=some ⟨[],[]⟩):=by
 have L:=kp h
 have J:aH ((t.Dims.length:Int) - 1)=(t.Dims.length:Int) - 1:=bC (by omega) (by omega)
 unfold Z0t
 rw [kL h,J]
 simp only [Option.bind_some]
 by_cases c:(0≤a∧a<(t.Dims.length:Int))∧a≠(t.Dims.length:Int) - 1∧1≤st∧1≤n∧n≤4096
 ·obtain ⟨g1,F,Y,M,O⟩:=c
  obtain ⟨j,rfl⟩:=Int.eq_ofNat_of_zero_le g1.1
  have u:j<t.Dims.length:=by omega
  obtain ⟨l,B⟩:∃ l,l=t.Dims.length - 1:=⟨_,rfl⟩
  have g:(t.Dims.length:Int) - 1=(l:Int):=by omega
  have w2:aH (l:Int)=(l:Int):=bC (by omega) (by omega)
  have hm:=h.d.2.mem (bE u)
  have a0:=h.d.2.mem (bE (xs:=t.Dims) (k:=l) (by omega))
  rw [g] at F ⊢
  rw [if_neg (by simp; omega),if_pos (by omega),if_pos (fun _=>by omega),if_pos (fun _=>g1)]
  unfold lH
  rw [g,← B]
  by_cases c5:ix t.Dims (l:Int)≤n
  ·have q0:0≤(n - ix t.Dims (l:Int)) / st:=Int.ediv_nonneg (by omega) (by omega)
   have q1:(n - ix t.Dims (l:Int)) / st≤n - ix t.Dims (l:Int):=Int.ediv_le_self _ (by omega)
   have e:aH (aH ((aH (n - ix t.Dims (l:Int))).tdiv st)+1)=(n - ix t.Dims (l:Int)) / st+1:=by
    rw [bC (n:=n - ix t.Dims (l:Int)) (by omega) (by omega),Int.tdiv_eq_ediv_of_nonneg (by omega),bC (n:=(n - ix t.Dims (l:Int)) / st) (by omega) (by omega),bC (by omega) (by omega)]
   rw [e]
   by_cases c6:(n - ix t.Dims (l:Int)) / st+1=ix t.Dims (j:Int)
   ·rw [if_neg (by simp [c6]; omega),jt L.2 u]
    simp only [Option.bind_some,Int.toNat_natCast]
    rw [if_pos (by simp; omega),kM,gB (by simp [b']; omega)]
    by_cases g5:eG ((t.Dims.set j n).take l)
    ·simp only [decide_eq_true g5,Option.bind_some,Bool.not_true,Bool.false_eq_true,if_false]
     refine ⟨fun _=>?_,fun q=>absurd ⟨g1.1,g1.2,F,Y,M,O,c5,c6,g5⟩ q⟩
     rw [kH g5]
     simp only [Option.bind_some]
     have hp:=h.d.2.2
     have q3:=Int.ediv_mul_le (n - ix t.Dims (l:Int)) (show st≠0 by omega)
     obtain ⟨r,e1,Z⟩:=kK (f:=fun s:List Int×Int=>Z0t_L1 t (j:Int) st ⟨(t.Dims.set j n).take l,List.replicate (pr ((t.Dims.set j n).take l)).toNat 0⟩ s.1 s.2) (Post:=fun r=>RG (pr ((t.Dims.set j n).take l)).toNat r) (pr ((t.Dims.set j n).take l)).toNat t.Data.length
      (fun k hk x i=>by
       have E:=gX h.d.2.1 (k:Int)
       have I:=jr t.Dims (k:Int)
       have D:=E.mem (j:=j) (by omega)
       have G:=E.mem (j:=l) (by omega)
       have z0:0≤ix (gW t.Dims (k:Int)) (j:Int)*st:=Int.mul_nonneg D.1 (by omega)
       have z1:ix (gW t.Dims (k:Int)) (j:Int)*st≤(n - ix t.Dims (l:Int)) / st*st:=Int.mul_le_mul_of_nonneg_right (by omega) (by omega)
       have ee:aH (aH (ix (gW t.Dims (k:Int)) (j:Int)*st)+ix (gW t.Dims (k:Int)) (l:Int))=ix (gW t.Dims (k:Int)) (j:Int)*st+ix (gW t.Dims (k:Int)) (l:Int):=by
        rw [bC (n:=ix (gW t.Dims (k:Int)) (j:Int)*st) (by omega) (by omega),bC (by omega) (by omega)]
       have b:=qx (l' (m:=n) (x:=ix (gW t.Dims (k:Int)) (j:Int)*st+ix (gW t.Dims (k:Int)) (l:Int)) u E (by omega) (by omega)) l
       have tk:TT ⟨(t.Dims.set j n).take l,x⟩:=gY g5 i
       obtain ⟨y,T,y2⟩:=n6 (t:=⟨(t.Dims.set j n).take l,x⟩) tk b
       obtain ⟨m,U,m2⟩:=nI y (ix t.Data (k:Int))
       simp only [Z0t_L1,g,w2]
       rw [if_pos (by simp; omega),js h.d (by omega) (by omega)]
       simp only [Option.bind_some]
       rw [if_pos (by omega),if_pos (by omega),ee,jt (by omega) (by omega)]
       simp only [Option.bind_some]
       rw [if_pos (by simp; omega),kM,T]
       simp only [Option.bind_some]
       rw [if_pos (by omega),U]
       simp only [Option.bind_some]
       rw [sK (t:=⟨(t.Dims.set j n).take l,x⟩) g5 tk.l b,bW (by unfold b'; omega)]
       exact ⟨_,rfl,i.set m2 _⟩)
      (fun x i=>by simp only [Z0t_L1]; rw [if_neg (by simp)]; exact ⟨x,rfl,i⟩) (RG.rep _)
     rw [e1]
     exact ⟨r,rfl,gY g5 Z⟩
    ·simp only [decide_eq_false g5,Option.bind_some,Bool.not_false,if_true]
     exact ⟨fun q=>absurd q.2.2.2.2.2.2.2.2 g5,fun _=>by trivial⟩
   ·rw [if_pos (by simp [c6])]
    exact ⟨fun q=>absurd q.2.2.2.2.2.2.2.1 c6,fun _=>by trivial⟩
  ·rw [if_pos (by simp; omega)]
   exact ⟨fun q=>absurd q.2.2.2.2.2.2.1 c5,fun _=>by trivial⟩
 ·rw [if_pos (by simp only [Bool.or_eq_true,Bool.not_eq_true',decide_eq_true_eq,decide_eq_false_iff_not,beq_iff_eq]; omega)]
  exact ⟨fun q=>absurd ⟨⟨q.1,q.2.1⟩,q.2.2.1,q.2.2.2.1,q.2.2.2.2.1,q.2.2.2.2.2.1⟩ c,fun _=>by trivial⟩
theorem xd {t:Tensor}(h:TT t){j:Nat}(q:j<t.Dims.length){is:List Int}(u:IV t.Dims is):∃ xs,Z0z t (j:Int) is=some xs∧xs.length≤4096:=by
 have J:=kp h
 have B:=u.len
 have I:=h.d.2.mem (bE q)
 unfold Z0z
 obtain ⟨r,E,F⟩:=hY (f:=fun s:List Int×Int=>Z0z_L1 t (j:Int) is s.1 s.2) (fun k s=>s.2=(k:Int)∧s.1.length=k) (ix t.Dims (j:Int)).toNat (Post:=fun r=>r.length≤4096)
  (fun k s G l=>by
   obtain ⟨x,i⟩:=s
   obtain ⟨a,g⟩:=l
   simp only at a g
   subst a
   have b:IV t.Dims (is.set j (k:Int)):=by
    have:=l' (m:=ix t.Dims (j:Int)) (x:=(k:Int)) q u (by omega) (by omega)
    have e:t.Dims.set j (ix t.Dims (j:Int))=t.Dims:=by rw [bS q]; simp
    rw [e] at this; exact this
   obtain ⟨y,D,_⟩:=n6 h b
   simp only [Z0z_L1]
   rw [if_pos (by omega),if_pos (by simp; omega),jt (by omega) (by omega)]
   simp only [Option.bind_some,D]
   rw [if_pos (by simp; omega),bW (by unfold b'; omega)]
   exact ⟨_,rfl,rfl,by simp [g]⟩)
  (fun s l=>by
   obtain ⟨x,i⟩:=s
   obtain ⟨a,g⟩:=l
   simp only at a g
   subst a
   simp only [Z0z_L1]
   rw [if_pos (by omega),if_neg (by simp; omega)]
   exact ⟨x,rfl,by omega⟩) (s:=([],0)) ⟨rfl,rfl⟩
 rw [E]
 exact ⟨r,rfl,F⟩
theorem zT {t:Tensor}(h:TT t){a:Int}:(0≤a∧a<(t.Dims.length:Int)→∃ d,Zc t a=some ⟨t.Dims,d⟩∧TOk t.Dims d)∧(¬ (0≤a∧a<(t.Dims.length:Int))→Zc t a=some ⟨[],[]⟩):=by
 have U:=kp h
 unfold Zc
 rw [kL h]
 simp only [Option.bind_some]
 by_cases g1:0≤a∧a<(t.Dims.length:Int)
 ·obtain ⟨j,rfl⟩:=Int.eq_ofNat_of_zero_le g1.1
  have J:j<t.Dims.length:=by omega
  rw [decide_eq_true g1,if_neg (by simp),kH h.d]
  simp only [Option.bind_some]
  refine ⟨fun _=>?_,fun q=>absurd g1 q⟩
  have M:=h.d.2.2
  have T:(pr t.Dims).toNat=t.Data.length:=(oO h).1.symm
  obtain ⟨r,B,I⟩:=kK (f:=fun s:List Int×Int=>Zc_L1 t (j:Int) ⟨t.Dims,List.replicate (pr t.Dims).toNat 0⟩ s.1 s.2) (Post:=fun r=>RG (pr t.Dims).toNat r) (pr t.Dims).toNat t.Data.length
   (fun k L x g=>by
    have G:=gX h.d.2.1 (k:Int)
    have m:=jr t.Dims (k:Int)
    obtain ⟨xs,E,O⟩:=xd h J G
    simp only [Zc_L1]
    rw [if_pos (by simp; omega),js h.d (by omega) (by omega)]
    simp only [Option.bind_some,E]
    obtain ⟨b,l,_⟩:=hY (f:=fun s:Bool×Int=>Zc_L2 t (j:Int) (k:Int) (gW t.Dims (k:Int)) xs s.1 s.2) (fun q s=>s.2=(q:Int)) xs.length (Post:=fun _=>True)
     (fun q s Y e=>by
      obtain ⟨b,i⟩:=s
      simp only at e
      subst e
      obtain ⟨u,D⟩:=jP (ix xs (q:Int))
      obtain ⟨v,F⟩:=jP (ix t.Data (k:Int))
      simp only [Zc_L2,Zc_J6]
      rw [if_pos (by simp; omega),if_pos (by omega),D]
      simp only [Option.bind_some]
      rw [if_pos (by omega),F]
      simp only [Option.bind_some]
      rw [if_pos (fun _ _=>by omega),bW (by unfold b'; omega)]
      split<;>exact ⟨_,rfl,rfl⟩)
     (fun s e=>by
      obtain ⟨b,i⟩:=s
      simp only at e
      subst e
      simp only [Zc_L2]
      rw [if_neg (by simp)]
      exact ⟨b,rfl,trivial⟩) (s:=(true,0)) rfl
    rw [l]
    simp only [Option.bind_some,Zc_J7,Zc_J8]
    rw [bW (by unfold b'; omega)]
    split
    ·rw [if_pos (by simp; omega)]
     exact ⟨_,rfl,g.set (by decide) _⟩
    ·exact ⟨_,rfl,g⟩)
   (fun x g=>by simp only [Zc_L1]; rw [if_neg (by simp)]; exact ⟨x,rfl,g⟩) (RG.rep _)
  rw [B]
  exact ⟨r,rfl,gY h.d I⟩
 ·rw [decide_eq_false g1,if_pos (by simp)]
  exact ⟨fun q=>absurd q g1,fun _=>by trivial⟩
theorem lv {α R:Type}{f:List α×Int→Option ((List α×Int)⊕R)}(n w a:Nat){Post:R→Prop}(x:List α)(l:∀ j:Nat,j<n→∀ y,y.length+w≤a→∃ g,f (y,(j:Int))=some (.inl (g,((j+1:Nat):Int)))∧g.length≤y.length+w)
  (m:∀ y,y.length≤x.length+n*w→∃ r,f (y,(n:Int))=some (.inr r)∧Post r) (q:x.length+n*w≤a):∃ r,aR f (x,0)=some r∧Post r :=
 hY (f:=f) (fun j s=>s.2=(j:Int)∧s.1.length≤x.length+j*w) n (fun j s h b=>by
  obtain ⟨y,i⟩:=s
  obtain ⟨rfl,e⟩:=b
  have h1:(j+1)*w≤n*w:=Nat.mul_le_mul_right w h
  rw [Nat.succ_mul] at h1
  simp only at e
  obtain ⟨g,g1,u⟩:=l j h y (by omega)
  exact ⟨_,g1,rfl,by rw [Nat.succ_mul]; simp only; omega⟩) (fun s b=>by
  obtain ⟨y,i⟩:=s
  obtain ⟨rfl,e⟩:=b
  exact m y e) (s:=(x,0)) ⟨rfl,by simp⟩
theorem nK {xs:List Int}(h:xs.length≤6){j:Nat}(a:j<xs.length)(x:Int):Z1n xs (j:Int) x=some (xs.set j x):=by
 unfold Z1n
 rw [hB (by omega)]
 simp only [Option.bind_some]
 rw [if_pos (by omega),Int.toNat_natCast]
theorem qy {ds:List Int}(h:eG ds){j:Nat}(a:j<ds.length):Z23 ds (j:Int)=some (pr (ds.take j),ix ds (j:Int),pr (ds.drop (j+1))):=by
 have b:=h.1
 unfold Z23
 rw [if_pos (by omega),kM,l6 (by simp [b']; omega) (h.2.take j)]
 simp only [Option.bind_some]
 rw [if_pos (by omega),bW (by unfold b'; omega),if_pos (by omega),hD,Int.toNat_natCast,l6 (by simp [b']; omega) (h.2.drop (j+1))]
 rfl
theorem nL {ds:List Int}(h:eG ds){j:Nat}(E:j<ds.length)(n:Int){l:List pair}(D:l.length≤4096):∃ ps,Z8 ds (j:Int) n l=some ps:=by
 have hn:=h.1
 unfold Z8
 rw [qy h E]
 simp only [Option.bind_some]
 obtain ⟨a,G⟩:∃ a:Nat,(a:Int)=pr (ds.take j):=⟨(pr (ds.take j)).toNat,by have:=(h.2.take j).pos; omega⟩
 obtain ⟨b,U⟩:∃ b:Nat,(b:Int)=pr (ds.drop (j+1)):=⟨(pr (ds.drop (j+1))).toNat,by have:=(h.2.drop (j+1)).pos; omega⟩
 have u:=(h.2.take j).2
 have m:=(h.2.drop (j+1)).2
 have a0:=(h.2.take j).pos
 have T:=(h.2.drop (j+1)).pos
 rw [← G] at u a0 ⊢
 rw [← U] at m T ⊢
 have k1:(a:Int)*b≤4096*4096:=Int.mul_le_mul u m (by omega) (by omega)
 have O:0≤(a:Int)*b:=Int.mul_nonneg (by omega) (by omega)
 have k3:(a:Int)*b*l.length≤4096*4096*4096:=Int.mul_le_mul k1 (by omega) (by omega) (by omega)
 have k4:0≤(a:Int)*b*l.length:=Int.mul_nonneg O (by omega)
 have F:l.length*b≤4096*4096:=Nat.mul_le_mul D (by omega)
 have M:a*(l.length*b)≤4096*(4096*4096):=Nat.mul_le_mul (by omega) F
 rw [bC (n:=(a:Int)*b) (by omega) (by omega),bC (by omega) (by omega),if_pos (by omega)]
 obtain ⟨r,e,_⟩:=lv (f:=fun s:List pair×Int=>Z8_L1 n l ((a:Int),ix ds (j:Int),(b:Int)) s.1 s.2) a (l.length*b) 8796093022208 (Post:=fun _=>True) []
  (fun i hi y B=>by
   simp only [Z8_L1,Z8_J6]
   rw [if_pos (by simp; omega),bW (by unfold b'; omega)]
   obtain ⟨Z,J,I⟩:=lv (f:=fun s:List pair×Int=>Z8_L2 n l ((a:Int),ix ds (j:Int),(b:Int)) (i:Int) s.1 s.2) l.length b 8796093022208 (Post:=fun r=>r.length≤y.length+l.length*b) y
    (fun k Y z hz=>by
     simp only [Z8_L2,Z8_J5]
     rw [if_pos (by simp; omega),if_pos (by omega),bW (by unfold b'; omega)]
     obtain ⟨r3,L,p3⟩:=lv (f:=fun s:List pair×Int=>Z8_L3 n l ((a:Int),ix ds (j:Int),(b:Int)) (i:Int) (k:Int) s.1 s.2) b 1 8796093022208 (Post:=fun r=>r.length≤z.length+b*1) z
      (fun q hq v g=>by
       simp only [Z8_L3]
       rw [if_pos (by simp; omega),if_pos (by simp; omega),bW (by unfold b'; omega)]
       exact ⟨_,rfl,by simp⟩)
      (fun v g=>by simp only [Z8_L3]; rw [if_neg (by simp)]; exact ⟨v,rfl,g⟩) (by omega)
     rw [L]
     exact ⟨_,rfl,by omega⟩)
    (fun v g=>by simp only [Z8_L2]; rw [if_neg (by simp)]; exact ⟨v,rfl,g⟩) B
   rw [J]
   exact ⟨_,rfl,I⟩)
  (fun v g=>by simp only [Z8_L1]; rw [if_neg (by simp)]; exact ⟨v,rfl,trivial⟩) (by simp; omega)
 rw [e]
 exact ⟨r,rfl⟩
theorem j4 {xs:List Int}{p:Int→Prop}(i:∀ x,Decidable (p x))(h:¬ ∀ x∈xs,p x):∃ m,m<xs.length∧¬ p (ix xs (m:Int))∧∀ k:Nat,k<m→p (ix xs (k:Int)):=by
 induction xs with
 | nil=>exact absurd (fun x e=>by cases e) h
 | cons x xs ih =>
  by_cases c:p x
  ·obtain ⟨m,h1,h2,g⟩:=ih fun q=>h fun y a=>by
    rcases List.mem_cons.1 a with rfl | a
    ·exact c
    ·exact q y a
   refine ⟨m+1,by simpa using h1,by rw [dK]; exact h2,?_⟩
   intro k b
   cases k with
   | zero=>exact c
   | succ k=>rw [dK]; exact g k (by omega)
  ·exact ⟨0,by simp,c,fun k b=>by omega⟩
def Sh (o:Option (List Int×List pair×Bool))(c:Prop)[Decidable c](d:List Int):Prop:=∃ ds ps,o=some (ds,ps,decide c)∧(c→ds=d)
theorem t6 {ds:List Int}(h:eG ds){a:Int}{xs:List Int}(hb:xs.length<b'):Sh (Z0f ds a xs) (mz ds a xs) (ds.set a.toNat (xs.length:Int)):=by
 have T:=h.1
 unfold Z0f
 simp only [Zm,Option.bind_some]
 by_cases c:(0≤a∧a<(ds.length:Int))∧xs≠[]∧xs.length≤4096
 ·obtain ⟨g1,F,Z⟩:=c
  obtain ⟨j,rfl⟩:=Int.eq_ofNat_of_zero_le g1.1
  have I:j<ds.length:=by omega
  have U:xs.length≠0:=fun e=>F (List.eq_nil_of_length_eq_zero e)
  rw [if_neg (by simp [F]; omega)]
  by_cases g5:∀ x∈xs,0≤x∧x<ix ds (j:Int)
  ·obtain ⟨r,G,E⟩:=hY (f:=fun s:List pair×Int=>Z0f_L1 ds (j:Int) xs s.1 s.2) (fun k s=>s.2=(k:Int)∧s.1.length=k) xs.length (Post:=fun r=>∃ l,r=.inr l∧l.length≤4096)
    (fun k s B u=>by
     obtain ⟨y,i⟩:=s
     obtain ⟨b,g⟩:=u
     simp only at b g
     subst b
     have:=g5 _ (bE B)
     simp only [Z0f_L1]
     rw [if_pos (by simp; omega),if_pos (by omega),if_pos (fun _=>g1),if_neg (by simp; omega),if_pos (by simp; omega),bW (by unfold b'; omega)]
     exact ⟨_,rfl,rfl,by simp [g]⟩)
    (fun s u=>by
     obtain ⟨y,i⟩:=s
     obtain ⟨b,g⟩:=u
     simp only at b g
     subst b
     simp only [Z0f_L1]
     rw [if_neg (by simp)]
     exact ⟨_,rfl,y,rfl,by omega⟩) (s:=([],0)) ⟨rfl,rfl⟩
   obtain ⟨l,rfl,J⟩:=E
   rw [G]
   simp only [Option.bind_some,Z0f_J1]
   rw [nK T I]
   simp only [Option.bind_some]
   rw [gV (by simp [b']; omega)]
   by_cases g6:eG (ds.set j (xs.length:Int))
   ·have O:mz ds (j:Int) xs:=⟨g1.1,g1.2,F,g5,by simpa using g6⟩
    obtain ⟨ps,D⟩:=nL h I (xs.length:Int) J
    simp only [decide_eq_true g6,Option.bind_some,Bool.not_true,Bool.false_eq_true,if_false]
    rw [D]
    exact ⟨_,ps,by rw [decide_eq_true O]; rfl,fun _=>by simp⟩
   ·have no:¬ mz ds (j:Int) xs:=fun q=>g6 (by simpa using q.2.2.2.2)
    simp only [decide_eq_false g6,Option.bind_some,Bool.not_false,if_true]
    exact ⟨_,_,by rw [decide_eq_false no],fun q=>absurd q no⟩
  ·have no:¬ mz ds (j:Int) xs:=fun q=>g5 q.2.2.2.1
   obtain ⟨m,Y,m2,M⟩:=j4 (fun _=>inferInstance) g5
   obtain ⟨r,G,E⟩:=hY (f:=fun s:List pair×Int=>Z0f_L1 ds (j:Int) xs s.1 s.2) (fun k s=>s.2=(k:Int)∧s.1.length=k) m (Post:=fun r=>r=.inl ([],[],false))
    (fun k s B u=>by
     obtain ⟨y,i⟩:=s
     obtain ⟨b,g⟩:=u
     simp only at b g
     subst b
     have:=M k B
     simp only [Z0f_L1]
     rw [if_pos (by simp; omega),if_pos (by omega),if_pos (fun _=>g1),if_neg (by simp; omega),if_pos (by simp; omega),bW (by unfold b'; omega)]
     exact ⟨_,rfl,rfl,by simp [g]⟩)
    (fun s u=>by
     obtain ⟨y,i⟩:=s
     obtain ⟨b,g⟩:=u
     simp only at b g
     subst b
     simp only [Z0f_L1]
     rw [if_pos (by simp; omega),if_pos (by omega),if_pos (fun _=>g1),if_pos (by simp only [Bool.or_eq_true,decide_eq_true_eq]; omega)]
     exact ⟨_,rfl,rfl⟩) (s:=([],0)) ⟨rfl,rfl⟩
   rw [G,E]
   exact ⟨_,_,by rw [decide_eq_false no]; rfl,fun q=>absurd q no⟩
 ·have no:¬ mz ds a xs:=fun q=>c ⟨⟨q.1,q.2.1⟩,q.2.2.1,by
   have:=q.2.2.2.2.2.mem (d:=(xs.length:Int)) (by
    have:a.toNat<ds.length:=by have:=q.1; have:=q.2.1; omega
    exact List.mem_iff_getElem.2 ⟨a.toNat,by simpa using this,by simp⟩)
   omega⟩
  have L:((!(decide (a≥0)&&decide (a<(ds.length:Int)))||(xs.length:Int)==0)||decide ((xs.length:Int)>4096))=true:=by
   by_cases q:0≤a∧a<(ds.length:Int)
   ·by_cases q2:xs=[]
    ·subst q2; simp
    ·have:¬ xs.length≤4096:=fun z=>c ⟨q,q2,z⟩
     have:(xs.length:Int)>4096:=by omega
     simp [this]
   ·have:(decide (a≥0)&&decide (a<(ds.length:Int)))=false:=by simp; omega
    rw [this]; rfl
  rw [if_pos L]
  exact ⟨_,_,by rw [decide_eq_false no],fun q=>absurd q no⟩
theorem rl {ds:List Int}(h:eG ds){a n:Int}{xs:List Int}(hb:xs.length<b'):Sh (Z0g ds a xs n) (lG ds a xs n) (ds.set a.toNat n):=by
 have L:=h.1
 unfold Z0g
 simp only [Zm,Option.bind_some]
 by_cases g1:0≤a∧a<(ds.length:Int)
 ·obtain ⟨j,rfl⟩:=Int.eq_ofNat_of_zero_le g1.1
  have u:j<ds.length:=by omega
  have T:=h.2.mem (bE u)
  rw [if_pos (fun _=>g1)]
  by_cases c:(xs.length:Int)=ix ds (j:Int)∧1≤n
  ·obtain ⟨M,Y⟩:=c
   rw [if_neg (by simp; omega)]
   by_cases g5:∀ x∈xs,0≤x∧x<n
   ·obtain ⟨r,F,E⟩:=hY (f:=fun s:List pair×Int=>Z0g_L1 xs n s.1 s.2) (fun k s=>s.2=(k:Int)∧s.1.length=k) xs.length (Post:=fun r=>∃ l,r=.inr l∧l.length≤4096)
     (fun k s B g=>by
      obtain ⟨y,i⟩:=s
      obtain ⟨b,e⟩:=g
      simp only at b e
      subst b
      have:=g5 _ (bE B)
      simp only [Z0g_L1]
      rw [if_pos (by simp; omega),if_pos (by omega),if_neg (by simp; omega),if_pos (by simp; omega),bW (by unfold b'; omega)]
      exact ⟨_,rfl,rfl,by simp [e]⟩)
     (fun s g=>by
      obtain ⟨y,i⟩:=s
      obtain ⟨b,e⟩:=g
      simp only at b e
      subst b
      simp only [Z0g_L1]
      rw [if_neg (by simp)]
      exact ⟨_,rfl,y,rfl,by omega⟩) (s:=([],0)) ⟨rfl,rfl⟩
    obtain ⟨l,rfl,G⟩:=E
    rw [F]
    simp only [Option.bind_some,Z0g_J1]
    rw [nK L u]
    simp only [Option.bind_some]
    rw [gV (by simp [b']; omega)]
    by_cases g6:eG (ds.set j n)
    ·have J:lG ds (j:Int) xs n:=⟨g1.1,g1.2,M,g5,by simpa using g6⟩
     obtain ⟨ps,D⟩:=nL h u n G
     simp only [decide_eq_true g6,Option.bind_some,Bool.not_true,Bool.false_eq_true,if_false]
     rw [D]
     exact ⟨_,ps,by rw [decide_eq_true J]; rfl,fun _=>by simp⟩
    ·have no:¬ lG ds (j:Int) xs n:=fun q=>g6 (by simpa using q.2.2.2.2)
     simp only [decide_eq_false g6,Option.bind_some,Bool.not_false,if_true]
     exact ⟨_,_,by rw [decide_eq_false no],fun q=>absurd q no⟩
   ·have no:¬ lG ds (j:Int) xs n:=fun q=>g5 q.2.2.2.1
    obtain ⟨m,U,Z,I⟩:=j4 (fun _=>inferInstance) g5
    obtain ⟨r,F,E⟩:=hY (f:=fun s:List pair×Int=>Z0g_L1 xs n s.1 s.2) (fun k s=>s.2=(k:Int)∧s.1.length=k) m (Post:=fun r=>r=.inl ([],[],false))
     (fun k s B g=>by
      obtain ⟨y,i⟩:=s
      obtain ⟨b,e⟩:=g
      simp only at b e
      subst b
      have:=I k B
      simp only [Z0g_L1]
      rw [if_pos (by simp; omega),if_pos (by omega),if_neg (by simp; omega),if_pos (by simp; omega),bW (by unfold b'; omega)]
      exact ⟨_,rfl,rfl,by simp [e]⟩)
     (fun s g=>by
      obtain ⟨y,i⟩:=s
      obtain ⟨b,e⟩:=g
      simp only at b e
      subst b
      simp only [Z0g_L1]
      rw [if_pos (by simp; omega),if_pos (by omega),if_pos (by simp only [Bool.or_eq_true,decide_eq_true_eq]; omega)]
      exact ⟨_,rfl,rfl⟩) (s:=([],0)) ⟨rfl,rfl⟩
    rw [F,E]
    exact ⟨_,_,by rw [decide_eq_false no]; rfl,fun q=>absurd q no⟩
  ·have no:¬ lG ds (j:Int) xs n:=fun q=>c ⟨q.2.2.1,by
    have:=q.2.2.2.2.2.1 n (List.mem_iff_getElem.2 ⟨j,by simpa using u,by simp⟩)
    exact this⟩
   rw [if_pos (by
    by_cases q:(xs.length:Int)=ix ds (j:Int)
    ·have:n<1:=by
      rcases Int.lt_or_le n 1 with z | z
      ·exact z
      ·exact absurd ⟨q,z⟩ c
     simp [this]
    ·simp [q])]
   exact ⟨_,_,by rw [decide_eq_false no],fun q=>absurd q no⟩
 ·have no:¬ lG ds a xs n:=fun q=>g1 ⟨q.1,q.2.1⟩
  have O:(decide (a≥0)&&decide (a<(ds.length:Int)))=false:=by simp; omega
  rw [O,if_pos (fun q=>by cases q),if_pos (by simp)]
  exact ⟨_,_,by rw [decide_eq_false no],fun q=>absurd q no⟩
theorem zU {ds:List Int}(h:eG ds){a b f g:Int}:Sh (Z00 ds a b f g) (mA ds a b f g) (ds.set a.toNat (jF ds a b f g)):=by
 have Y:=h.1
 unfold Z00
 simp only [Zm,Option.bind_some]
 by_cases g1:0≤a∧a<(ds.length:Int)
 ·obtain ⟨j,rfl⟩:=Int.eq_ofNat_of_zero_le g1.1
  have u:j<ds.length:=by omega
  have hm:=h.2.mem (bE u)
  rw [if_neg (by simp; omega)]
  have lp:=eP [b,f,g] (fun s:Int=>Z00_L1 b f g s) (fun i=>i) (fun x=>!(decide (x<0)||decide (x>4096))) (.inl (([]:List Int),([]:List pair),false)) (.inr ())
   (fun k G=>by
    simp only [List.length_cons,List.length_nil] at G
    simp only [Z00_L1]
    rw [if_pos (by simp; omega),if_pos (by simp; omega),bW (by unfold b'; omega)]
    cases (decide (ix [b,f,g] (k:Int)<0)||decide (ix [b,f,g] (k:Int)>4096))<;>rfl)
   (by simp only [Z00_L1]; rw [if_neg (by simp)])
  rw [lp]
  by_cases c:0≤b∧b≤4096∧0≤f∧f≤4096∧0≤g∧g≤4096
  ·obtain ⟨I,O,L,M,B,E⟩:=c
   have D:([b,f,g].all fun x=>!(decide (x<0)||decide (x>4096)))=true:=by
    rw [List.all_eq_true]
    intro x T
    have:x=b∨x=f∨x=g:=by simpa using T
    simp; rcases this with rfl | rfl | rfl<;>omega
   rw [D]
   simp only [if_true,Option.bind_some,Z00_J1]
   have k0:0≤(ix ds (j:Int) - 1)*g:=Int.mul_nonneg (by omega) B
   have k1:=Int.mul_le_mul (show ix ds (j:Int) - 1≤4096 by omega) E B (show (0:Int)≤4096 by omega)
   have e:aH (aH (aH (b+ix ds (j:Int))+aH (aH (ix ds (j:Int) - 1)*g))+f)=jF ds (j:Int) b f g:=by
    rw [bC (n:=b+ix ds (j:Int)) (by omega) (by omega),bC (n:=ix ds (j:Int) - 1) (by omega) (by omega),bC (n:=(ix ds (j:Int) - 1)*g) (by omega) (by omega),bC (n:=b+ix ds (j:Int)+(ix ds (j:Int) - 1)*g) (by omega) (by omega),bC (by omega) (by omega)]
    rfl
   rw [if_pos g1,e,nK Y u]
   simp only [Option.bind_some]
   rw [gV (by simp [b']; omega)]
   by_cases g6:eG (ds.set j (jF ds (j:Int) b f g))
   ·have U:mA ds (j:Int) b f g:=⟨g1.1,g1.2,I,O,L,M,B,E,by simpa using g6⟩
    simp only [decide_eq_true g6,Option.bind_some,Bool.not_true,Bool.false_eq_true,if_false]
    obtain ⟨l,Z,J⟩:=lv (f:=fun s:List pair×Int=>Z00_L2 ds (j:Int) b g s.1 s.2) (ix ds (j:Int)).toNat 1 8796093022208 (Post:=fun r=>r.length≤4096) []
     (fun q hq v F=>by
      simp only [Z00_L2]
      rw [if_pos (by simp; omega),if_pos (by simp; omega),bW (by unfold b'; omega)]
      exact ⟨_,rfl,by simp⟩)
     (fun v F=>by
      simp only [Z00_L2]
      simp at F
      rw [if_neg (by simp; omega)]
      exact ⟨v,rfl,by omega⟩) (by simp; omega)
    rw [Z]
    simp only [Option.bind_some,Z00_J2]
    obtain ⟨ps,m⟩:=nL h u (jF ds (j:Int) b f g) J
    rw [e,m]
    exact ⟨_,ps,by rw [decide_eq_true U]; rfl,fun _=>by simp⟩
   ·have no:¬ mA ds (j:Int) b f g:=fun q=>g6 (by simpa using q.2.2.2.2.2.2.2.2)
    simp only [decide_eq_false g6,Option.bind_some,Bool.not_false,if_true]
    exact ⟨_,_,by rw [decide_eq_false no],fun q=>absurd q no⟩
  ·have no:¬ mA ds (j:Int) b f g:=fun q=>c ⟨q.2.2.1,q.2.2.2.1,q.2.2.2.2.1,q.2.2.2.2.2.1,q.2.2.2.2.2.2.1,q.2.2.2.2.2.2.2.1⟩
   have D:([b,f,g].all fun x=>!(decide (x<0)||decide (x>4096)))=false:=by
    simp only [List.all_cons,List.all_nil,Bool.and_true,Bool.and_eq_false_iff,Bool.not_eq_false',Bool.or_eq_true,decide_eq_true_eq]
    omega
   rw [D]
   exact ⟨_,_,by rw [decide_eq_false no]; rfl,fun q=>absurd q no⟩
 ·have no:¬ mA ds a b f g:=fun q=>g1 ⟨q.1,q.2.1⟩
  have b0:(decide (a≥0)&&decide (a<(ds.length:Int)))=false:=by simp; omega
  rw [b0,if_pos (by simp)]
  exact ⟨_,_,by rw [decide_eq_false no],fun q=>absurd q no⟩
theorem xe {ds:List Int}(h:eG ds){a st n:Int}:Sh (Z5 ds a st n) (lH ds a st n) ((ds.set a.toNat n).take (ds.length - 1)):=by
 have hn:=h.1
 have w1:aH ((ds.length:Int) - 1)=(ds.length:Int) - 1:=bC (by omega) (by omega)
 unfold Z5
 simp only [Zm,Option.bind_some,w1]
 by_cases c:(0≤a∧a<(ds.length:Int))∧a≠(ds.length:Int) - 1∧1≤st∧1≤n∧n≤4096
 ·obtain ⟨g1,M,c2,c3,c4⟩:=c
  obtain ⟨j,rfl⟩:=Int.eq_ofNat_of_zero_le g1.1
  have O:j<ds.length:=by omega
  obtain ⟨l,D⟩:∃ l,l=ds.length - 1:=⟨_,rfl⟩
  have g:(ds.length:Int) - 1=(l:Int):=by omega
  have J:aH (l:Int)=(l:Int):=bC (by omega) (by omega)
  have hm:=h.2.mem (bE O)
  have a0:=h.2.mem (bE (xs:=ds) (k:=l) (by omega))
  have b0:(decide ((j:Int)≥0)&&decide ((j:Int)<(ds.length:Int)))=true:=by simp; omega
  rw [g] at M ⊢
  have G:((((!(decide ((j:Int)≥0)&&decide ((j:Int)<(ds.length:Int)))||((j:Int)==(l:Int)))||decide (st<1))||decide (n<1))||decide (n>4096))=false:=by rw [b0]; simp; omega
  have m:lH ds (j:Int) st n↔0≤(j:Int)∧(j:Int)<(ds.length:Int)∧(j:Int)≠(l:Int)∧1≤st∧1≤n∧n≤4096∧ix ds (l:Int)≤n∧(n - ix ds (l:Int)) / st+1=ix ds (j:Int)∧eG ((ds.set j n).take l):=by
   unfold lH
   rw [g,← D,Int.toNat_natCast]
  rw [G]
  rw [if_pos (fun _=>by omega),if_pos (fun _=>g1),if_pos (fun _=>by omega),if_pos (fun _=>by omega)]
  by_cases c5:ix ds (l:Int)≤n
  ·have q0:0≤(n - ix ds (l:Int)) / st:=Int.ediv_nonneg (by omega) (by omega)
   have q1:(n - ix ds (l:Int)) / st≤n - ix ds (l:Int):=Int.ediv_le_self _ (by omega)
   have e:aH (aH ((aH (n - ix ds (l:Int))).tdiv st)+1)=(n - ix ds (l:Int)) / st+1:=by
    rw [bC (n:=n - ix ds (l:Int)) (by omega) (by omega),Int.tdiv_eq_ediv_of_nonneg (by omega),bC (n:=(n - ix ds (l:Int)) / st) (by omega) (by omega),bC (by omega) (by omega)]
   rw [e]
   by_cases c6:(n - ix ds (l:Int)) / st+1=ix ds (j:Int)
   ·rw [if_neg (by simp [c6]; omega),nK hn O]
    simp only [Option.bind_some,Int.toNat_natCast]
    rw [if_pos (by simp; omega),kM,gV (by simp [b']; omega)]
    by_cases g5:eG ((ds.set j n).take l)
    ·simp only [decide_eq_true g5,Option.bind_some,Bool.not_true,Bool.false_eq_true,if_false]
     have ok:lH ds (j:Int) st n:=m.2 ⟨g1.1,g1.2,M,c2,c3,c4,c5,c6,g5⟩
     rw [if_pos g1]
     have U:∀ s:Int,∃ ps,Z5_J1 ds (j:Int) n (ds.set j n) s=some ((ds.set j n).take l,ps,true):=by
      intro s
      have b:eG (ds.take l):=⟨by simp; omega,h.2.take l⟩
      simp only [Z5_J1,g,J]
      rw [if_pos (by omega),kM,qy b (by simp; omega)]
      simp only [Option.bind_some]
      obtain ⟨A,T⟩:∃ A:Nat,(A:Int)=pr ((ds.take l).take j):=⟨(pr ((ds.take l).take j)).toNat,by have:=(b.2.take j).pos; omega⟩
      obtain ⟨L,hL⟩:∃ L:Nat,(L:Int)=ix (ds.take l) (j:Int):=⟨(ix (ds.take l) (j:Int)).toNat,by have:=b.2.mem (bE (xs:=ds.take l) (k:=j) (by simp; omega)); omega⟩
      obtain ⟨B,Y⟩:∃ B:Nat,(B:Int)=pr ((ds.take l).drop (j+1)):=⟨(pr ((ds.take l).drop (j+1))).toNat,by have:=(b.2.drop (j+1)).pos; omega⟩
      obtain ⟨Z,hZ⟩:∃ Z:Nat,(Z:Int)=ix ds (l:Int):=⟨(ix ds (l:Int)).toNat,by omega⟩
      have a1:=(b.2.take j).2
      have G:=(b.2.drop (j+1)).2
      have l1:=b.2.mem (bE (xs:=ds.take l) (k:=j) (by simp; omega))
      rw [← T] at a1 ⊢
      rw [← Y] at G ⊢
      rw [← hL] at l1 ⊢
      have m1:B*(Z*1)≤4096*4096:=Nat.mul_le_mul (by omega) (by omega)
      have m2:L*(B*(Z*1))≤4096*(4096*4096):=Nat.mul_le_mul (by omega) m1
      have m3:A*(L*(B*(Z*1)))≤64*(4096*(4096*4096))∨True:=.inr trivial
      -- the product of all four is the size of the bV
      have I:pr (ds.take l)=pr ((ds.take l).take j)*(ix (ds.take l) (j:Int)*pr ((ds.take l).drop (j+1))):=by
       rw [gK (ds.take l) j]
       have:(ds.take l).drop j=ix (ds.take l) (j:Int)::(ds.take l).drop (j+1):=by rw [List.drop_eq_getElem_cons (by simp; omega),bS (by simp; omega)]
       rw [this]; rfl
      rw [← T,← hL,← Y] at I
      have h4:A*(L*B)≤4096:=by
       have:=b.2.2
       rw [I] at this
       have e4:((A*(L*B):Nat):Int)=(A:Int)*((L:Int)*(B:Int)):=by simp
       omega
      have m4:A*(L*(B*(Z*1)))≤4096*4096:=by
       have e5:A*(L*(B*(Z*1)))=A*(L*B)*Z:=by rw [Nat.mul_one,Nat.mul_assoc,Nat.mul_assoc]
       rw [e5]
       exact Nat.mul_le_mul h4 (by omega)
      obtain ⟨r,e1,_⟩:=lv (f:=fun q:List pair×Int=>Z5_L1 ds n s ((A:Int),(L:Int),(B:Int)) q.1 q.2) A (L*(B*(Z*1))) 8796093022208 (Post:=fun _=>True) []
       (fun i hi y hy=>by
        simp only [Z5_L1,Z5_J15]
        rw [if_pos (by simp; omega),bW (by unfold b'; omega)]
        obtain ⟨r2,e2,p2⟩:=lv (f:=fun q:List pair×Int=>Z5_L2 ds n s ((A:Int),(L:Int),(B:Int)) (i:Int) q.1 q.2) L (B*(Z*1)) 8796093022208 (Post:=fun r=>r.length≤y.length+L*(B*(Z*1))) y
         (fun k hk z hz=>by
          simp only [Z5_L2,Z5_J14]
          rw [if_pos (by simp; omega),bW (by unfold b'; omega)]
          obtain ⟨r3,e3,p3⟩:=lv (f:=fun q:List pair×Int=>Z5_L3 ds n s ((A:Int),(L:Int),(B:Int)) (i:Int) (k:Int) q.1 q.2) B (Z*1) 8796093022208 (Post:=fun r=>r.length≤z.length+B*(Z*1)) z
           (fun p hp u hu=>by
            simp only [Z5_L3,Z5_J13]
            rw [if_pos (by simp; omega),bW (by unfold b'; omega)]
            obtain ⟨r4,e4,p4⟩:=lv (f:=fun q:List pair×Int=>Z5_L4 ds n s ((A:Int),(L:Int),(B:Int)) (i:Int) (k:Int) (p:Int) q.1 q.2) Z 1 8796093022208 (Post:=fun r=>r.length≤u.length+Z*1) u
             (fun o ho v E=>by
              simp only [Z5_L4,g,J]
              rw [if_pos (by omega),if_pos (by simp; omega),if_pos (by simp; omega),bW (by unfold b'; omega)]
              exact ⟨_,rfl,by simp⟩)
             (fun v E=>by
              simp only [Z5_L4,g,J]
              rw [if_pos (by omega),if_neg (by simp; omega)]
              exact ⟨v,rfl,E⟩) (by omega)
            rw [e4]
            exact ⟨_,rfl,p4⟩)
           (fun v E=>by simp only [Z5_L3]; rw [if_neg (by simp)]; exact ⟨v,rfl,E⟩) hz
          rw [e3]
          exact ⟨_,rfl,p3⟩)
         (fun v E=>by simp only [Z5_L2]; rw [if_neg (by simp)]; exact ⟨v,rfl,E⟩) hy
        rw [e2]
        exact ⟨_,rfl,p2⟩)
       (fun v E=>by simp only [Z5_L1]; rw [if_neg (by simp)]; exact ⟨v,rfl,trivial⟩) (by simp only [List.length_nil]; omega)
      rw [e1]
      simp only [Option.bind_some,Z5_J16,g,J]
      rw [kM]
      exact ⟨r,rfl⟩
     by_cases g7:ix ds (j:Int)=1
     ·rw [if_pos (by simp [g7])]
      obtain ⟨ps,F⟩:=U 0
      rw [F]
      exact ⟨_,ps,by rw [decide_eq_true ok],fun _=>by rw [← D]⟩
     ·rw [if_neg (by simp [g7])]
      obtain ⟨ps,F⟩:=U st
      rw [F]
      exact ⟨_,ps,by rw [decide_eq_true ok],fun _=>by rw [← D]⟩
    ·simp only [decide_eq_false g5,Option.bind_some,Bool.not_false,if_true]
     exact ⟨_,_,by rw [decide_eq_false (fun q=>g5 (m.1 q).2.2.2.2.2.2.2.2)],fun q=>absurd (m.1 q).2.2.2.2.2.2.2.2 g5⟩
   ·rw [if_pos (by simp only [Bool.or_eq_true,bne_iff_ne]; exact .inr fun z=>c6 z.symm)]
    exact ⟨_,_,by rw [decide_eq_false (fun q=>c6 (m.1 q).2.2.2.2.2.2.2.1)],fun q=>absurd (m.1 q).2.2.2.2.2.2.2.1 c6⟩
  ·rw [if_pos (by simp only [Bool.or_eq_true,Bool.false_or,decide_eq_true_eq]; exact .inl (by omega))]
   exact ⟨_,_,by rw [decide_eq_false (fun q=>c5 (m.1 q).2.2.2.2.2.2.1)],fun q=>absurd (m.1 q).2.2.2.2.2.2.1 c5⟩
 ·have no:¬ lH ds a st n:=fun q=>c ⟨⟨q.1,q.2.1⟩,q.2.2.1,q.2.2.2.1,q.2.2.2.2.1,q.2.2.2.2.2.1⟩
  have G:((((!(decide (a≥0)&&decide (a<(ds.length:Int)))||(a==(ds.length:Int) - 1))||decide (st<1))||decide (n<1))||decide (n>4096))=true:=by
   simp only [Bool.or_eq_true,Bool.not_eq_true',decide_eq_true_eq,Bool.and_eq_false_iff,decide_eq_false_iff_not,beq_iff_eq]
   omega
  rw [G,if_pos (fun q=>by simp at q),if_pos (fun q=>by simp at q),if_pos (fun q=>by simp at q),if_pos (fun q=>by simp at q),if_pos (by simp)]
  exact ⟨_,_,by rw [decide_eq_false no],fun q=>absurd q no⟩
theorem kN (n:Node)(u:aM)(bd b a bx:Bool)(h1:Z7 gS u=some bd)(h2:Z7 eR u=some b)(e:Z7 ka u=some a)(g:Z7 ov u=some bx) :
  Z1x n u=some ((((bd||((n.Dims.length:Int)==(0:Int)))&&(b||((n.Ints.length:Int)==(0:Int))))&&(a||(n.Form==([]:aM))))&&(bx||((n.Data.length:Int)==(0:Int)))):=by
 unfold Z1x
 rw [h1,h2,e,g]
 simp only [Option.bind_some]
 generalize ((n.Dims.length:Int)==(0:Int))=x1
 generalize ((n.Ints.length:Int)==(0:Int))=x2
 generalize (n.Form==([]:aM))=x3
 generalize ((n.Data.length:Int)==(0:Int))=x4
 cases bd<;>cases x1<;>cases b<;>cases x2<;>cases a<;>cases x3<;>cases bx<;>cases x4<;>rfl
theorem t7:Z7 gS []=some false:=by kernel_rfl
theorem t8:Z7 eR []=some false:=by kernel_rfl
theorem ta:Z7 ka []=some false:=by kernel_rfl
theorem tb:Z7 ov []=some false:=by kernel_rfl
theorem py:Z7 gS gS=some true:=by kernel_rfl
theorem pz:Z7 eR gS=some false:=by kernel_rfl
theorem pA:Z7 ka gS=some false:=by kernel_rfl
theorem pB:Z7 ov gS=some false:=by kernel_rfl
theorem kq:Z7 gS eR=some false:=by kernel_rfl
theorem kr:Z7 eR eR=some true:=by kernel_rfl
theorem ks:Z7 ka eR=some false:=by kernel_rfl
theorem kt:Z7 ov eR=some false:=by kernel_rfl
theorem xf:Z7 gS ou=some true:=by kernel_rfl
theorem xg:Z7 eR ou=some false:=by kernel_rfl
theorem xh:Z7 ka ou=some false:=by kernel_rfl
theorem xi:Z7 ov ou=some true:=by kernel_rfl
theorem xj:Z7 gS ka=some false:=by kernel_rfl
theorem xk:Z7 eR ka=some false:=by kernel_rfl
theorem xl:Z7 ka ka=some true:=by kernel_rfl
theorem xm:Z7 ov ka=some false:=by kernel_rfl
def nM (n:Node)(m:Nat):Prop:=∀ a∈n.Args,0≤a∧a<(m:Int)
instance (n:Node)(m:Nat):Decidable (nM n m):=by unfold nM; infer_instance
theorem xn {n:Node}{b:List (List Int)}(l:b.length≤4096)(j:n.Args.length≤6):aR (fun s:List (List Int)×Int=>Zf_L1 n b s.1 s.2) ([],0)=some (if nM n b.length then .inr (n.Args.map fun a=>ix b a) else .inl ([],false)):=by
 have e:∀ k:Nat,k<n.Args.length→(0≤ix n.Args (k:Int)∧ix n.Args (k:Int)<(b.length:Int))→(fun s:List (List Int)×Int=>Zf_L1 n b s.1 s.2) ((n.Args.take k).map fun a=>ix b a,(k:Int))=some (.inl ((n.Args.take (k+1)).map fun a=>ix b a,((k+1:Nat):Int))):=by
  intro k g hw
  simp only [Zf_L1]
  rw [if_pos (by simp; omega),if_pos (by omega),if_neg (by simp; omega),if_pos hw,if_pos (by simp; omega),bW (by unfold b'; omega),List.take_succ_eq_append_getElem g,List.map_append,bS g]
  rfl
 by_cases c:nM n b.length
 ·rw [if_pos c]
  refine eC (fun k=>((n.Args.take k).map fun a=>ix b a,(k:Int))) n.Args.length (fun k g=>e k g (c _ (bE g))) ?_ rfl
  simp only [Zf_L1]
  rw [if_neg (by simp),List.take_length]
 ·rw [if_neg c]
  obtain ⟨m,q,i,h⟩:=j4 (p:=fun a=>0≤a∧a<(b.length:Int)) (fun _=>inferInstance) c
  refine eC (fun k=>((n.Args.take k).map fun a=>ix b a,(k:Int))) m (fun k g=>e k (by omega) (h k g)) ?_ rfl
  simp only [Zf_L1]
  rw [if_pos (by simp; omega),if_pos (by omega),if_pos (by simp only [Bool.or_eq_true,decide_eq_true_eq]; omega)]
theorem xo {n:Node}{b:List (List Int)}(l:b.length≤4096){kd:kindOfR}{u:aM}{e:Bool}(i:Zz n.Op=some kd)(j:Nat.beq kd.t 0=false)(m:fN kd=some u)(h:Z1x n u=some e) :
  Zf n b=if e=true∧n.Args.length≤6 then (if nM n b.length then bO kd n (n.Args.map fun a=>ix b a) else some ([],false)) else some ([],false):=by
 unfold Zf
 rw [i]
 simp only [Option.bind_some,j,bQ,Bool.not_false,cond_true,m,h,Bool.false_or]
 by_cases c:e=true∧n.Args.length≤6
 ·obtain ⟨rfl,g⟩:=c
  rw [if_neg (by simp; omega),if_pos ⟨rfl,g⟩,xn l g]
  by_cases w:nM n b.length
  ·rw [if_pos w,if_pos w]
   simp only [Option.bind_some,Zf_J1]
   cases bO kd n (n.Args.map fun a=>ix b a)<;>rfl
  ·rw [if_neg w,if_neg w]
   rfl
 ·rw [if_neg c,if_pos]
  cases e
  ·rfl
  ·have:¬ n.Args.length≤6:=fun z=>c ⟨rfl,z⟩
   simp; omega
def FM (n:Node)(lo a:Int)(b:Bool)(ui uj:Int):Prop:=lo≤(n.Args.length:Int)∧(n.Args.length:Int)≤a∧(b=true∨n.Dims=[])∧(n.Op=11∨n.Form=[])∧(n.Op=2∨n.Data=[])∧ui≤(n.Ints.length:Int)∧(n.Ints.length:Int)≤uj
instance (n:Node)(lo hi:Int)(ud:Bool)(ui uj:Int):Decidable (FM n lo hi ud ui uj):=by unfold FM; infer_instance
theorem gL {n:Node}{lo b ui uj:Int}{a:Bool}(h1:1≤n.Op)(h2:n.Op≤19)(h:Z2l n.Op=some (lo,b))(l:Z3b n.Op=some a)(e:Z1d n.Op=some ui)(g:uj=if n.Op=16∨n.Op=17 then ui+4096 else ui)(r:0≤ui∧ui≤100) :
  Z10 n=some (decide (FM n lo b a ui uj)):=by
 unfold Z10
 rw [if_neg (by simp; omega),h]
 simp only [Option.bind_some]
 by_cases c1:lo≤(n.Args.length:Int)∧(n.Args.length:Int)≤b
 ·rw [if_neg (by simp; omega),l]
  simp only [Option.bind_some]
  by_cases c2:(a=true∨n.Dims=[])∧(n.Op=11∨n.Form=[])∧(n.Op=2∨n.Data=[])
  ·obtain ⟨d1,d2,d3⟩:=c2
   have j:((!a)&&decide ((n.Dims.length:Int)>0))=false:=by
    rcases d1 with d | d<;>simp [d]
   have m:((n.Op != 11)&&(!(n.Form==([]:aM))))=false:=by
    rcases d2 with d | d<;>simp [d]
   have i:((n.Op != 2)&&decide ((n.Data.length:Int)>0))=false:=by
    rcases d3 with d | d<;>simp [d]
   rw [j,m,i,if_neg (by simp),e]
   simp only [Option.bind_some]
   by_cases c3:n.Op=16∨n.Op=17
   ·rw [if_pos (by simpa using c3),bC (by omega) (by omega)]
    rw [if_pos c3] at g
    congr 1
    rw [Bool.eq_iff_iff]
    simp only [Bool.and_eq_true,decide_eq_true_eq]
    unfold FM
    exact ⟨fun q=>⟨c1.1,c1.2,d1,d2,d3,q.1,by omega⟩,fun q=>⟨q.2.2.2.2.2.1,by have:=q.2.2.2.2.2.2; omega⟩⟩
   ·rw [if_neg (by simpa using c3)]
    rw [if_neg c3] at g
    congr 1
    rw [Bool.eq_iff_iff]
    simp only [beq_iff_eq,decide_eq_true_eq]
    unfold FM
    exact ⟨fun q=>⟨c1.1,c1.2,d1,d2,d3,by omega,by omega⟩,fun q=>by have:=q.2.2.2.2.2.1; have:=q.2.2.2.2.2.2; omega⟩
  ·have no:¬ FM n lo b a ui uj:=fun q=>c2 ⟨q.2.2.1,q.2.2.2.1,q.2.2.2.2.1⟩
   rw [decide_eq_false no,if_pos]
   refine Classical.byContradiction fun z=>c2 ?_
   simp only [Bool.or_eq_true,Bool.and_eq_true,Bool.not_eq_true',decide_eq_true_eq,bne_iff_ne,beq_eq_false_iff_ne,not_or,not_and] at z
   refine ⟨?_,?_,?_⟩
   ·cases a
    ·refine .inr (List.eq_nil_of_length_eq_zero ?_); have:=z.1.1 rfl; omega
    ·exact .inl rfl
   ·by_cases q:n.Op=11
    ·exact .inl q
    ·exact .inr (Classical.not_not.1 (z.1.2 q))
   ·by_cases q:n.Op=2
    ·exact .inl q
    ·refine .inr (List.eq_nil_of_length_eq_zero ?_); have:=z.2 q; omega
 ·have no:¬ FM n lo b a ui uj:=fun q=>c1 ⟨q.1,q.2.1⟩
  rw [decide_eq_false no,if_pos (by simp only [Bool.or_eq_true,decide_eq_true_eq]; omega)]
noncomputable def Do (n:Node)(b:List Tensor):Option Tensor:=if n.Op=1 then Z0s n.Dims 0 else Z1 n (n.Args.map fun a=>ix b a)
def oP (n:Node)(a:List Tensor)(o:Option (List Int×Bool)):Prop :=
 (∃ t,o=some (t.Dims,true)∧Z10 n=some true∧nM n a.length∧Do n a=some t∧TT t) ∨
 (∃ ds,o=some (ds,false)∧(Z10 n=some false∨Z10 n=some true∧(nM n a.length→Do n a=some ⟨[],[]⟩)))
structure Caps (n:Node)(out:List Tensor):Prop where
 a:n.Args.length<b'
 d:n.Dims.length<b'
 i:n.Ints.length<b'
 x:n.Data.length<b'
 f:n.Form.length≤1048576
 o:out.length≤200
 t:∀ t∈out,TT t
theorem nd {b:List Tensor}{a:Int}(g:0≤a)(h1:a<(b.length:Int)):ix (b.map Tensor.Dims) a=(ix b a).Dims∧ix b a∈b:=by
 obtain ⟨k,rfl⟩:=Int.eq_ofNat_of_zero_le g
 have e:k<b.length:=by omega
 rw [bS (by simpa using e),bS e]
 exact ⟨by simp,List.getElem_mem e⟩
theorem mB {n:Node}{b:List Tensor}(D:Caps n b){kd:kindOfR}{u:aM}{g fb:Bool}(r:Zz n.Op=some kd)(s:Nat.beq kd.t 0=false)(B:fN kd=some u)(m:Z1x n u=some g)(e:Z10 n=some fb)
  (h1:fb=true→g=true∧n.Args.length≤6)
  (h2:g=true→nM n b.length→fb=false→∃ ds,bO kd n ((n.Args.map fun a=>ix b a).map Tensor.Dims)=some (ds,false))
  (I:fb=true→nM n b.length→∃ t,(bO kd n ((n.Args.map fun a=>ix b a).map Tensor.Dims)=some (t.Dims,true)∧Do n b=some t∧TT t)∨∃ ds,bO kd n ((n.Args.map fun a=>ix b a).map Tensor.Dims)=some (ds,false)∧Do n b=some ⟨[],[]⟩) :
  oP n b (Zf n (b.map Tensor.Dims)):=by
 have J:=D.o
 rw [xo (by simp; omega) r s B m]
 have l:nM n b.length→(n.Args.map fun a=>ix (b.map Tensor.Dims) a)=(n.Args.map fun a=>ix b a).map Tensor.Dims:=by
  intro w
  rw [List.map_map]
  exact List.map_congr_left fun a j=>(nd (w a j).1 (w a j).2).1
 have E:(b.map Tensor.Dims).length=b.length:=by simp
 rw [E]
 cases fb with
 | true =>
  obtain ⟨p1,F⟩:=h1 rfl
  rw [if_pos ⟨p1,F⟩]
  by_cases w:nM n b.length
  ·rw [if_pos w,l w]
   obtain ⟨t,q⟩:=I rfl w
   rcases q with ⟨h,i,G⟩|⟨ds,h,i⟩
   ·exact .inl ⟨t,h,e,w,i,G⟩
   ·exact .inr ⟨ds,h,.inr ⟨e,fun _=>i⟩⟩
  ·rw [if_neg w]
   exact .inr ⟨[],rfl,.inr ⟨e,fun z=>absurd z w⟩⟩
 | false =>
  by_cases c:g=true∧n.Args.length≤6
  ·rw [if_pos c]
   by_cases w:nM n b.length
   ·rw [if_pos w,l w]
    obtain ⟨ds,q⟩:=h2 c.1 w rfl
    exact .inr ⟨ds,q,.inl e⟩
   ·rw [if_neg w]
    exact .inr ⟨[],rfl,.inl e⟩
  ·rw [if_neg c]
   exact .inr ⟨[],rfl,.inl e⟩
theorem sh2 (b i j s n args):bO ⟨2,b,i,j,s⟩ n args=Z24 ⟨i⟩ n args:=rfl
theorem l7 {n:Node}{b:Bool}{args:List (List Int)}(g:n.Dims.length<b')(h:n.Data.length<b'):Z1m ⟨b⟩ n args=some (if args=[]∧eG n.Dims∧(b=true→TOk n.Dims n.Data) then (n.Dims,true) else ([],false)):=by
 unfold Z1m
 by_cases c1:args=[]
 ·subst c1
  have a:(((([]:List (List Int)).length:Int)) != 0)=false:=rfl
  simp only [a,bQ,Bool.not_false,cond_true,Bool.false_or]
  rw [gV g]
  simp only [Option.bind_some]
  by_cases c2:eG n.Dims
  ·simp only [decide_eq_true c2,Bool.not_true,Bool.not_false,Bool.true_and,Bool.false_or]
   cases b with
   | false=>simp [c2]
   | true =>
    rw [cond_true,wS (t:=⟨n.Dims,n.Data⟩) g h]
    by_cases c3:TOk n.Dims n.Data
    ·simp [c2,c3]
    ·simp [c2,c3]
  ·simp [decide_eq_false c2,c2]
 ·have a:((args.length:Int) != 0)=true:=by
   have:args.length≠0:=fun e=>c1 (List.eq_nil_of_length_eq_zero e)
   simp; omega
  simp only [a,bQ,Bool.not_true,Bool.not_false,cond_false,Bool.true_or,Option.bind_some,Bool.false_and]
  simp [c1]
theorem kO {α:Type}(xs:List α):((xs.length:Int)=0)↔xs=[]:=by
 exact ⟨fun h=>List.eq_nil_of_length_eq_zero (by omega),fun h=>by simp [h]⟩
theorem tc {n:Node}{g:List Tensor}(b:Caps n g)(a:n.Op=1):oP n g (Zf n (g.map Tensor.Dims)):=by
 refine mB b (kd:=⟨1,false,0,0,[]⟩) (u:=gS) (fb:=decide (FM n 0 0 true 0 0)) (by rw [a]; rfl) rfl rfl (kN n gS true false false false py pz pA pB) (gL (by omega) (by omega) (by rw [a]; rfl) (by rw [a]; rfl) (by rw [a]; rfl) (by rw [a]; rfl) ⟨by omega,by omega⟩) ?_ ?_ ?_
 ·intro h
  obtain ⟨f1,s,D,j,l,J,I⟩:=of_decide_eq_true h
  have r:n.Form=[]:=j.resolve_left (by omega)
  have F:n.Data=[]:=l.resolve_left (by omega)
  have G:n.Ints=[]:=List.eq_nil_of_length_eq_zero (by omega)
  exact ⟨by rw [r,F,G]; rfl,by omega⟩
 ·intro i hw h
  show ∃ ds,Z1m ⟨false⟩ n _=_
  rw [l7 b.d b.x]
  have:n.Args≠[]:=by
   intro e
   refine of_decide_eq_false h ?_
   simp only [Bool.true_or,Bool.false_or,Bool.true_and,Bool.and_eq_true,kO,beq_iff_eq] at i
   refine ⟨by rw [e]; decide,by rw [e]; decide,.inl rfl,.inr i.1.2,.inr i.2,by omega,by rw [i.1.1]; decide⟩
  rw [if_neg (by simp [this])]
  exact ⟨_,rfl⟩
 ·intro h hw
  obtain ⟨f1,s,D,j,l,J,I⟩:=of_decide_eq_true h
  have E:n.Args=[]:=List.eq_nil_of_length_eq_zero (by omega)
  obtain ⟨m,B⟩:=xa b.d
  by_cases c:eG n.Dims
  ·obtain ⟨d,d1,d2⟩:=m c
   refine ⟨⟨n.Dims,d⟩,.inl ⟨?_,by unfold Do; rw [if_pos a]; exact d1,d2⟩⟩
   show Z1m ⟨false⟩ n _=_
   rw [l7 b.d b.x,if_pos ⟨by simp [E],c,by simp⟩]
  ·refine ⟨⟨[],[]⟩,.inr ⟨[],?_,by unfold Do; rw [if_pos a]; exact B c⟩⟩
   show Z1m ⟨false⟩ n _=_
   rw [l7 b.d b.x,if_neg (fun q=>c q.2.1)]
theorem te {n:Node}{b:List Tensor}(g:Caps n b)(a:n.Op=2):oP n b (Zf n (b.map Tensor.Dims)):=by
 refine mB g (kd:=⟨1,true,0,0,[]⟩) (u:=ou) (fb:=decide (FM n 0 0 true 0 0)) (by rw [a]; rfl) rfl rfl (kN n ou true false false true xf xg xh xi) (gL (by omega) (by omega) (by rw [a]; rfl) (by rw [a]; rfl) (by rw [a]; rfl) (by rw [a]; rfl) ⟨by omega,by omega⟩) ?_ ?_ ?_
 ·intro i
  obtain ⟨f1,s,B,m,E,I,G⟩:=of_decide_eq_true i
  have r:n.Form=[]:=m.resolve_left (by omega)
  have F:n.Ints=[]:=List.eq_nil_of_length_eq_zero (by omega)
  exact ⟨by rw [r,F]; rfl,by omega⟩
 ·intro j hw i
  show ∃ ds,Z1m ⟨true⟩ n _=_
  rw [l7 g.d g.x]
  have:n.Args≠[]:=by
   intro e
   refine of_decide_eq_false i ?_
   simp only [Bool.true_or,Bool.false_or,Bool.true_and,Bool.and_true,Bool.and_eq_true,kO,beq_iff_eq] at j
   refine ⟨by rw [e]; decide,by rw [e]; decide,.inl rfl,.inr j.2,.inl a,by omega,by rw [j.1]; decide⟩
  rw [if_neg (by simp [this])]
  exact ⟨_,rfl⟩
 ·intro i hw
  obtain ⟨f1,s,B,m,E,I,G⟩:=of_decide_eq_true i
  have D:n.Args=[]:=List.eq_nil_of_length_eq_zero (by omega)
  have h:Do n b=if TOk n.Dims n.Data then some ⟨n.Dims,n.Data⟩ else some ⟨[],[]⟩:=by
   unfold Do Z1
   rw [if_neg (by omega),if_pos (by simp [a]),sI (t:=⟨n.Dims,n.Data⟩) g.d g.x]
   simp only [Option.bind_some]
   by_cases c:TOk n.Dims n.Data
   ·have h1:=c.l
    have h2:=c.d.1
    have J:=c.d.2.2
    rw [decide_eq_true c,if_pos c,if_neg (by simp),hO (by omega),hO (by omega)]
    rfl
   ·rw [decide_eq_false c,if_neg c,if_pos (by simp)]
  by_cases c:TOk n.Dims n.Data
  ·rw [if_pos c] at h
   refine ⟨⟨n.Dims,n.Data⟩,.inl ⟨?_,h,c⟩⟩
   show Z1m ⟨true⟩ n _=_
   rw [l7 g.d g.x,if_pos ⟨by simp [D],c.d,fun _=>c⟩]
  ·rw [if_neg c] at h
   refine ⟨⟨[],[]⟩,.inr ⟨[],?_,h⟩⟩
   show Z1m ⟨true⟩ n _=_
   rw [l7 g.d g.x,if_neg (fun q=>c (q.2.2 rfl))]
theorem tf {i:Int}{n:Node}{args:List (List Int)}(b:∀ a∈args,a.length<b'):Z24 ⟨i⟩ n args=some (if args.length=2∧ix args 0=ix args 1 then (ix args 0,true) else ([],false)):=by
 unfold Z24
 by_cases c:args.length=2
 ·have e:((args.length:Int) != 2)=false:=by simp [c]
  rw [e,if_pos (fun _=>by omega),if_pos (fun _=>by omega)]
  simp only [bQ,Bool.not_false,cond_true,Bool.false_or]
  have g:ix args (0:Int)∈args:=bE (k:=0) (by omega)
  rw [uA (b _ g)]
  simp only [Option.bind_some]
  by_cases q:ix args 0=ix args 1
  ·rw [decide_eq_true q,if_neg (by simp),if_pos (by omega),if_pos ⟨c,q⟩]
  ·rw [decide_eq_false q,if_pos (by simp),if_neg (fun z=>q z.2)]
 ·have e:((args.length:Int) != 2)=true:=by simp; omega
  rw [e,if_pos (fun z=>by cases z),if_pos (fun z=>by cases z)]
  simp only [bQ,Bool.not_true,cond_false,Option.bind_some,Bool.true_or,if_true]
  rw [if_neg (fun z=>c z.1)]
theorem jR {n:Node}{b:List Tensor}(g:Caps n b)(hw:nM n b.length):∀ t∈(n.Args.map fun a=>ix b a),TT t:=by
 intro t h
 obtain ⟨a,e,rfl⟩:=List.mem_map.1 h
 exact g.t _ (nd (hw a e).1 (hw a e).2).2
theorem uN {n:Node}{g:List Tensor}(B:Caps n g)(h3:3≤n.Op)(h5:n.Op≤5):oP n g (Zf n (g.map Tensor.Dims)):=by
 have i:n.Op=3∨n.Op=4∨n.Op=5:=by omega
 refine mB B (kd:=⟨2,false,n.Op - 2,0,[]⟩) (u:=[]) (fb:=decide (FM n 2 2 false 0 0)) (by rcases i with h | h | h<;>rw [h]<;>rfl) rfl rfl (kN n [] false false false false t7 t8 ta tb) (gL (by omega) (by omega) (by rcases i with h | h | h<;>rw [h]<;>rfl) (by rcases i with h | h | h<;>rw [h]<;>rfl) (by rcases i with h | h | h<;>rw [h]<;>rfl) (by rw [if_neg (by omega)]) ⟨by omega,by omega⟩) ?_ ?_ ?_
 ·intro s
  obtain ⟨f1,U,O,J,L,f6,f7⟩:=of_decide_eq_true s
  have g3:n.Dims=[]:=O.resolve_left (by simp)
  have T:n.Form=[]:=J.resolve_left (by omega)
  have g5:n.Data=[]:=L.resolve_left (by omega)
  have Z:n.Ints=[]:=List.eq_nil_of_length_eq_zero (by omega)
  exact ⟨by rw [g3,T,g5,Z]; rfl,by omega⟩
 ·intro m hw s
  show ∃ ds,Z24 ⟨n.Op - 2⟩ n _=_
  have j:=jR B hw
  rw [tf (fun a E=>by
   obtain ⟨t,l,rfl⟩:=List.mem_map.1 E
   have:=kp (j t l); unfold b'; omega)]
  have:n.Args.length≠2:=by
   intro e
   refine of_decide_eq_false s ?_
   simp only [Bool.false_or,Bool.and_eq_true,kO,beq_iff_eq] at m
   refine ⟨by omega,by omega,.inr m.1.1.1,.inr m.1.2,.inr m.2,by omega,by rw [m.1.1.2]; decide⟩
  rw [if_neg (by simp [this])]
  exact ⟨_,rfl⟩
 ·intro s hw
  obtain ⟨f1,U,O,J,L,f6,f7⟩:=of_decide_eq_true s
  have j:=jR B hw
  obtain ⟨A,F⟩:∃ A,A=n.Args.map fun a=>ix g a:=⟨_,rfl⟩
  have Y:A.length=2:=by rw [F]; simp; omega
  rw [← F] at j ⊢
  obtain ⟨t,u,rfl⟩:∃ t u,A=[t,u]:=by
   match A,Y with
   | [t,u],_=>exact ⟨t,u,rfl⟩
  have l:TT t:=j t (by simp)
  have M:TT u:=j u (by simp)
  have I:bO ⟨2,false,n.Op - 2,0,[]⟩ n ([t,u].map Tensor.Dims)=some (if t.Dims=u.Dims then (t.Dims,true) else ([],false)):=by
   rw [sh2,tf (fun a E=>by
    have:a=t.Dims∨a=u.Dims:=by simpa using E
    have:=kp l; have:=kp M
    unfold b'
    rcases ‹a=t.Dims∨a=u.Dims› with rfl | rfl<;>omega)]
   by_cases q:t.Dims=u.Dims
   ·rw [if_pos q,if_pos ⟨rfl,q⟩]; rfl
   ·rw [if_neg q,if_neg (fun z=>q z.2)]
  have b:Do n g=(Z02 t.Dims u.Dims).bind fun D=>if (!D)=true then some ⟨[],[]⟩ else (Z15 (aH (aH (n.Op - 3)+1)) t u).bind fun G=>some G:=by
   unfold Do Z1
   rw [if_neg (by omega),← F,if_neg (by simp; omega)]
   rcases i with h | h | h
   ·rw [if_pos (by simp [h])]; simp only [Z1_J1,h]; rfl
   ·rw [if_neg (by simp [h]),if_pos (by simp [h])]; simp only [Z1_J1,h]; rfl
   ·rw [if_neg (by simp [h]),if_neg (by simp [h])]; simp only [Z1_J1,h]; rfl
  rw [sJ (by have:=kp l; unfold b'; omega)] at b
  simp only [Option.bind_some] at b
  by_cases q:t.Dims=u.Dims
  ·rw [decide_eq_true q,if_neg (by simp)] at b
   have r:aH (aH (n.Op - 3)+1)=n.Op - 2:=by rw [bC (n:=n.Op - 3) (by omega) (by omega),bC (by omega) (by omega)]; omega
   rw [r] at b
   obtain ⟨d,d1,d2⟩:=zR (op:=n.Op - 2) l M q (by omega) (by omega)
   rw [d1] at b
   exact ⟨⟨t.Dims,d⟩,.inl ⟨by rw [I,if_pos q],b,d2⟩⟩
  ·rw [decide_eq_false q,if_pos (by simp)] at b
   exact ⟨⟨[],[]⟩,.inr ⟨[],by rw [I,if_neg q],b⟩⟩
theorem hF {n:Node}{b:List Tensor}(D:Caps n b){kd:kindOfR}{u:aM}{r i:Bool}{ui uj:Int}(M:Zz n.Op=some kd)(ht:Nat.beq kd.t 0=false)(hu:fN kd=some u)
  (h1:Z7 gS u=some r) (h2:Z7 eR u=some i) (h3:Z7 ka u=some false) (h4:Z7 ov u=some false)
  (g:Z10 n=some (decide (FM n 1 1 r ui uj))) (h:n.Op≠1∧n.Op≠2∧n.Op≠11) (L:i=false→ui=0∧uj=0)
  (sa:∀ args:List (List Int),args.length≠1→bO kd n args=some ([],false))
  (si:∀ t:Tensor,TT t→¬ (ui≤(n.Ints.length:Int)∧(n.Ints.length:Int)≤uj)→i=true→∃ ds,bO kd n [t.Dims]=some (ds,false))
  (l:FM n 1 1 r ui uj→∀ t:Tensor,TT t→(∃ s,bO kd n [t.Dims]=some (s.Dims,true)∧Z1 n [t]=some s∧TT s)∨∃ ds,bO kd n [t.Dims]=some (ds,false)∧Z1 n [t]=some ⟨[],[]⟩) :
  oP n b (Zf n (b.map Tensor.Dims)):=by
 refine mB D M ht hu (kN n u r i false false h1 h2 h3 h4) g ?_ ?_ ?_
 ·intro g
  obtain ⟨f1,U,J,G,I,f6,f7⟩:=of_decide_eq_true g
  have T:n.Form=[]:=G.resolve_left h.2.2
  have Z:n.Data=[]:=I.resolve_left h.2.1
  refine ⟨?_,by omega⟩
  have g6:(i||((n.Ints.length:Int)==0))=true:=by
   cases i
   ·obtain ⟨rfl,rfl⟩:=L rfl
    have:n.Ints=[]:=List.eq_nil_of_length_eq_zero (by omega)
    rw [this]; rfl
   ·rfl
  have O:(r||((n.Dims.length:Int)==0))=true:=by
   rcases J with q | q
   ·rw [q]; rfl
   ·rw [q]; simp
  rw [O,g6,T,Z]; rfl
 ·intro m hw g
  have B:=jR D hw
  by_cases e:n.Args.length=1
  ·obtain ⟨A,j⟩:∃ A,A=n.Args.map fun a=>ix b a:=⟨_,rfl⟩
   have E:A.length=1:=by rw [j]; simp [e]
   rw [← j] at B ⊢
   obtain ⟨t,rfl⟩:∃ t,A=[t]:=by
    match A,E with
    | [t],_=>exact ⟨t,rfl⟩
   simp only [Bool.false_or,Bool.and_eq_true,Bool.or_eq_true,kO,beq_iff_eq] at m
   have no:¬ (ui≤(n.Ints.length:Int)∧(n.Ints.length:Int)≤uj):=by
    intro z
    exact of_decide_eq_false g ⟨by omega,by omega,m.1.1.1,.inr m.1.2,.inr m.2,z.1,z.2⟩
   cases i with
   | true=>exact si t (B t (by simp)) no rfl
   | false =>
    obtain ⟨rfl,rfl⟩:=L rfl
    have:n.Ints=[]:=by simpa using m.1.1.2
    exact absurd ⟨by omega,by rw [this]; decide⟩ no
  ·exact ⟨_,sa _ (by simpa using e)⟩
 ·intro g hw
  have Y:=of_decide_eq_true g
  obtain ⟨f1,U,J,G,I,f6,f7⟩:=Y
  have B:=jR D hw
  obtain ⟨A,j⟩:∃ A,A=n.Args.map fun a=>ix b a:=⟨_,rfl⟩
  have E:A.length=1:=by rw [j]; simp; omega
  have F:Do n b=Z1 n A:=by unfold Do; rw [if_neg h.1,j]
  rw [F]
  rw [← j] at B ⊢
  obtain ⟨t,rfl⟩:∃ t,A=[t]:=by
   match A,E with
   | [t],_=>exact ⟨t,rfl⟩
  rcases l (of_decide_eq_true g) t (B t (by simp)) with ⟨s,q⟩ | q
  ·exact ⟨s,.inl q⟩
  ·exact ⟨⟨[],[]⟩,.inr q⟩
theorem BS (b i j s n args):bO ⟨3,b,i,j,s⟩ n args=Z2w ⟨i⟩ n args:=rfl
theorem Bs (b i j s n args):bO ⟨4,b,i,j,s⟩ n args=Z1y ⟨⟩ n args:=rfl
theorem vV (b i j s n args):bO ⟨6,b,i,j,s⟩ n args=Z1u ⟨s⟩ n args:=rfl
theorem BT (b i j s n args):bO ⟨7,b,i,j,s⟩ n args=Z25 ⟨s⟩ n args:=rfl
theorem Bt (b i j s n args):bO ⟨8,b,i,j,s⟩ n args=Z1q ⟨s⟩ i j n args:=rfl
theorem Bu (b i j s n args):bO ⟨9,b,i,j,s⟩ n args=Z1r ⟨s⟩ i j n args:=rfl
theorem xp (b i j s n args):bO ⟨10,b,i,j,s⟩ n args=Z1s ⟨s⟩ i j n args:=rfl
theorem xq (b i j s n args):bO ⟨11,b,i,j,s⟩ n args=Z1t ⟨s⟩ i j n args:=rfl
theorem xr (n:Node)(t:Tensor)(h:6≤n.Op∧n.Op≤9):Z1 n [t]=(Z14 (aH (aH (n.Op - 6)+1)) t).bind fun r=>some r:=by
 have a:n.Op=6∨n.Op=7∨n.Op=8∨n.Op=9:=by omega
 unfold Z1
 rcases a with h | h | h | h<;>simp only [Z1_J1,Z1_J2,h]<;>rfl
theorem uO {n:Node}{b:List Tensor}(g:Caps n b)(h:6≤n.Op∧n.Op≤9):oP n b (Zf n (b.map Tensor.Dims)):=by
 have a:n.Op=6∨n.Op=7∨n.Op=8∨n.Op=9:=by omega
 refine hF g (kd:=⟨3,false,n.Op - 5,0,[]⟩) (u:=[]) (ui:=0) (uj:=0) (by rcases a with h | h | h | h<;>rw [h]<;>rfl) rfl rfl t7 t8 ta tb (gL (by omega) (by omega) (by rcases a with h | h | h | h<;>rw [h]<;>rfl) (by rcases a with h | h | h | h<;>rw [h]<;>rfl) (by rcases a with h | h | h | h<;>rw [h]<;>rfl) (by rw [if_neg (by omega)]) ⟨by omega,by omega⟩) ⟨by omega,by omega,by omega⟩ (fun _=>⟨rfl,rfl⟩) ?_ ?_ ?_
 ·intro args l
  rw [BS]; unfold Z2w
  rw [if_pos (by simp; omega)]
 ·intro _ _ _ i; cases i
 ·intro _ t j
  have e:aH (aH (n.Op - 6)+1)=n.Op - 5:=by rw [bC (n:=n.Op - 6) (by omega) (by omega),bC (by omega) (by omega)]; omega
  obtain ⟨d,d1,d2⟩:=zQ (op:=n.Op - 5) j (by omega) (by omega)
  exact .inl ⟨⟨t.Dims,d⟩,by rw [BS]; rfl,by rw [xr n t h,e,d1]; rfl,d2⟩
theorem xt {n:Node}{b:List Tensor}(E:Caps n b)(h:n.Op=10):oP n b (Zf n (b.map Tensor.Dims)):=by
 have g:∀ args:List (List Int),args.length≠1∨n.Ints.length≠1→Z1y ⟨⟩ n args=some ([],false):=by
  intro args i
  unfold Z1y
  have e:(((args.length:Int) != 1)||((n.Ints.length:Int) != 1))=true:=by
   rcases i with q | q
   ·have:((args.length:Int) != 1)=true:=by simp; omega
    rw [this]; rfl
   ·have:((n.Ints.length:Int) != 1)=true:=by simp; omega
    rw [this]; simp
  rw [e,if_pos (fun z=>by cases z),if_pos (fun z=>by cases z)]
  simp [bQ]
 refine hF E (kd:=⟨4,false,0,0,[]⟩) (u:=eR) (ui:=1) (uj:=1) (by rw [h]; rfl) rfl rfl kq kr ks kt (gL (by omega) (by omega) (by rw [h]; rfl) (by rw [h]; rfl) (by rw [h]; rfl) (by rw [if_neg (by omega)]) ⟨by omega,by omega⟩) ⟨by omega,by omega,by omega⟩ (fun F=>by cases F) ?_ ?_ ?_
 ·intro args i
  rw [Bs]; exact g args (.inl i)
 ·intro t _ M _
  rw [Bs]; exact ⟨_,g _ (.inr (by omega))⟩
 ·intro B t s
  obtain ⟨f1,J,L,O,T,Y,U⟩:=B
  have G:n.Ints.length=1:=by omega
  have j:Z1 n [t]=(Zc t (ix n.Ints 0)).bind fun r=>some r:=by
   unfold Z1
   simp only [Z1_J1,Z1_J2,h]
   simp only [Int.reduceBEq,Bool.false_eq_true,if_false,if_true,beq_self_eq_true]
   rw [if_pos (by simp),if_pos (by omega)]
   rfl
  have m:Z1y ⟨⟩ n [t.Dims]=some (if 0≤ix n.Ints 0∧ix n.Ints 0<(t.Dims.length:Int) then (t.Dims,true) else ([],false)):=by
   unfold Z1y
   have e:((([t.Dims].length:Int) != 1)||((n.Ints.length:Int) != 1))=false:=by simp [G]
   rw [e,if_pos (fun _=>by simp),if_pos (fun _=>by omega)]
   simp only [bQ,Bool.not_false,cond_true,Zm,Option.bind_some,Bool.false_or]
   have I:ix [t.Dims] (0:Int)=t.Dims:=rfl
   rw [I]
   by_cases c:0≤ix n.Ints 0∧ix n.Ints 0<(t.Dims.length:Int)
   ·rw [if_pos c,if_neg (by simp; omega)]; simp
   ·rw [if_neg c,if_pos (by simp; omega)]
  rw [Bs,m,j]
  obtain ⟨l,D⟩:=zT (a:=ix n.Ints 0) s
  by_cases c:0≤ix n.Ints 0∧ix n.Ints 0<(t.Dims.length:Int)
  ·obtain ⟨d,d1,d2⟩:=l c
   exact .inl ⟨⟨t.Dims,d⟩,by rw [if_pos c],by rw [d1]; rfl,d2⟩
  ·exact .inr ⟨[],by rw [if_neg c],by rw [D c]; rfl⟩
theorem nN {n:Node}{s:aM}{ds:List Int}{v:View}(h:Z1e n ds=some v)(b:VG v.Dims v.Strides v.Offset v.Base):Z1u ⟨s⟩ n [ds]=some (v.Dims,true):=by
 obtain ⟨ps,a⟩:=uF b
 unfold Z1u
 rw [if_neg (by simp),if_pos (by simp)]
 have e:ix [ds] (0:Int)=ds:=rfl
 unfold Z2u
 rw [e,h]
 simp only [Option.bind_some,a]
theorem l8 {n:Node}{s:aM}{ds:List Int}(h:Z1e n ds=some dS):Z1u ⟨s⟩ n [ds]=some ([],false):=by
 unfold Z1u
 rw [if_neg (by simp),if_pos (by simp)]
 have a:ix [ds] (0:Int)=ds:=rfl
 unfold Z2u
 rw [a,h]
 simp only [Option.bind_some,Z2h]
 rw [show Zh dS=some false from uD]
 rfl
theorem mC {n:Node}{s:aM}{args:List (List Int)}(h:args.length≠1):Z1u ⟨s⟩ n args=some ([],false):=by
 unfold Z1u
 rw [if_pos (by simp; omega)]
theorem rn {n:Node}{e:List Tensor}(l:Caps n e)(h:n.Op=12):oP n e (Zf n (e.map Tensor.Dims)):=by
 refine hF l (kd:=⟨6,false,0,0,gS⟩) (u:=gS) (ui:=0) (uj:=0) (by rw [h]; rfl) rfl rfl py pz pA pB (gL (by omega) (by omega) (by rw [h]; rfl) (by rw [h]; rfl) (by rw [h]; rfl) (by rw [if_neg (by omega)]) ⟨by omega,by omega⟩) ⟨by omega,by omega,by omega⟩ (fun _=>⟨rfl,rfl⟩) ?_ ?_ ?_
 ·intro args s; rw [vV]; exact mC s
 ·intro _ _ _ B; cases B
 ·intro _ t b
  have a:Z1 n [t]=(Zy t.Dims).bind fun m=>(Z04 m n.Dims).bind fun i=>(Z03 t i).bind fun j=>some j:=by
   unfold Z1
   simp only [Z1_J1,Z1_J2,h]
   simp only [Int.reduceBEq,Bool.false_eq_true,if_false,if_true,beq_self_eq_true]
   rw [if_pos (by simp)]
   rfl
  rw [k8 b.d] at a
  simp only [Option.bind_some] at a
  rw [sT b.d l.d] at a
  simp only [Option.bind_some] at a
  have g:Z1e n t.Dims=(Z2f (bV t.Dims) n.Dims).bind fun r=>some r:=by
   unfold Z1e
   rw [kJ b.d]
   simp only [Option.bind_some]
   rw [if_pos (by simp [h])]
  rw [sU b.d l.d] at g
  simp only [Option.bind_some] at g
  rw [vV]
  by_cases c:eG n.Dims∧t.Dims.length≤n.Dims.length∧lD t.Dims (n.Dims.drop (n.Dims.length - t.Dims.length))=true
  ·rw [if_pos c] at a g
   have q:VG n.Dims (jA t.Dims n.Dims) 0 (pr t.Dims):=na b.d c.1 c.2.1
   obtain ⟨d,d1,d2⟩:=nJ (v:=⟨n.Dims,jA t.Dims n.Dims,0,pr t.Dims⟩) b q rfl
   rw [d1] at a
   exact .inl ⟨⟨n.Dims,d⟩,nN g q,a,d2⟩
  ·rw [if_neg c] at a g
   rw [lZ b] at a
   exact .inr ⟨[],l8 g,a⟩
theorem pC {n:Node}{b:List Tensor}(l:Caps n b)(h:n.Op=13):oP n b (Zf n (b.map Tensor.Dims)):=by
 refine hF l (kd:=⟨7,false,0,0,gS⟩) (u:=gS) (ui:=0) (uj:=0) (by rw [h]; rfl) rfl rfl py pz pA pB (gL (by omega) (by omega) (by rw [h]; rfl) (by rw [h]; rfl) (by rw [h]; rfl) (by rw [if_neg (by omega)]) ⟨by omega,by omega⟩) ⟨by omega,by omega,by omega⟩ (fun _=>⟨rfl,rfl⟩) ?_ ?_ ?_
 ·intro args B
  rw [BT]; unfold Z25
  rw [if_pos (by simp; omega)]
 ·intro _ _ _ s; cases s
 ·intro _ t e
  have a:Z1 n [t]=(Zy t.Dims).bind fun m=>(Z0a m n.Dims).bind fun g=>(Z03 t g).bind fun i=>some i:=by
   unfold Z1
   simp only [Z1_J1,Z1_J2,h]
   simp only [Int.reduceBEq,Bool.false_eq_true,if_false,if_true,beq_self_eq_true]
   rw [if_pos (by simp)]
   rfl
  rw [k8 e.d] at a
  simp only [Option.bind_some] at a
  rw [rj e.d l.d] at a
  simp only [Option.bind_some] at a
  obtain ⟨ps,j⟩:=my (n:=n) e.d l.d
  have q:Z25 ⟨gS⟩ n [t.Dims]=(Z12 n t.Dims).bind fun r=>some (r.1,r.2.2):=by
   unfold Z25
   rw [if_neg (by simp),if_pos (by simp)]
   rfl
  rw [BT,q,j]
  by_cases c:eG n.Dims∧pr n.Dims=pr t.Dims
  ·rw [if_pos c] at a ⊢
   obtain ⟨d,d1,d2⟩:=nJ (v:=bV n.Dims) e (iN c.1) c.2
   rw [d1] at a
   exact .inl ⟨⟨n.Dims,d⟩,rfl,a,d2⟩
  ·rw [if_neg c] at a ⊢
   rw [lZ e] at a
   exact .inr ⟨[],rfl,a⟩
theorem tg {n:Node}{i:List Tensor}(E:Caps n i)(h:n.Op=14):oP n i (Zf n (i.map Tensor.Dims)):=by
 refine hF E (kd:=⟨6,false,0,0,eR⟩) (u:=eR) (ui:=4) (uj:=4) (by rw [h]; rfl) rfl rfl kq kr ks kt (gL (by omega) (by omega) (by rw [h]; rfl) (by rw [h]; rfl) (by rw [h]; rfl) (by rw [if_neg (by omega)]) ⟨by omega,by omega⟩) ⟨by omega,by omega,by omega⟩ (fun F=>by cases F) ?_ ?_ ?_
 ·intro args B; rw [vV]; exact mC B
 ·intro t b L _
  rw [vV]
  refine ⟨_,l8 ?_⟩
  unfold Z1e
  rw [kJ b.d]
  simp only [Option.bind_some,h]
  have e:((n.Ints.length:Int)==4)=false:=by simp; omega
  rw [if_neg (by simp),e]
  simp [dS]
 ·intro D t b
  obtain ⟨f1,I,J,M,O,U,T⟩:=D
  have G:n.Ints.length=4:=by omega
  have a:Z1 n [t]=if ix n.Ints 3<1 then some ⟨[],[]⟩ else (Zy t.Dims).bind fun m=>(Z1c m (ix n.Ints 0) (ix n.Ints 1) (ix n.Ints 2) (ix n.Ints 3)).bind fun j=>(Z03 t j).bind fun l=>some l:=by
   unfold Z1
   simp only [Z1_J1,Z1_J2,h]
   simp only [Int.reduceBEq,Bool.false_eq_true,if_false,if_true,beq_self_eq_true]
   rw [if_pos (by omega)]
   by_cases c:ix n.Ints 3<1
   ·rw [if_pos (by simpa using c),if_pos c]
   ·rw [if_neg (by simpa using c),if_neg c,if_pos (by simp)]
    show (Zy t.Dims).bind _=_
    rw [k8 b.d]
    simp only [Option.bind_some]
    rw [if_pos (by omega),if_pos (by omega),if_pos (by omega)]
    rfl
  have g:Z1e n t.Dims=if 1≤ix n.Ints 3 then (Z2e (bV t.Dims) (ix n.Ints 0) (ix n.Ints 1) (ix n.Ints 2) (ix n.Ints 3)).bind fun r=>some r else some dS:=by
   unfold Z1e
   rw [kJ b.d]
   simp only [Option.bind_some,h,G]
   rw [if_neg (by simp),if_pos (by simp)]
   by_cases c:1≤ix n.Ints 3
   ·rw [if_pos (by simp; omega),if_pos (by simp),if_pos (by simp),if_pos (by simp),if_pos (by simp),if_pos c]
   ·rw [if_neg (by simp; omega),if_neg (by simp),if_neg c]; rfl
  rw [vV]
  by_cases c:1≤ix n.Ints 3
  ·rw [if_neg (by omega),k8 b.d] at a
   simp only [Option.bind_some] at a
   rw [uH b.d c] at a
   rw [if_pos c,uI b.d c] at g
   simp only [Option.bind_some] at a g
   by_cases q:lE t.Dims (ix n.Ints 0) (ix n.Ints 1) (ix n.Ints 2) (ix n.Ints 3)
   ·rw [if_pos q] at a g
    have s:=nG b.d q
    obtain ⟨d,d1,d2⟩:=nJ b s rfl
    rw [d1] at a
    exact .inl ⟨⟨_,d⟩,nN g s,a,d2⟩
   ·rw [if_neg q] at a g
    rw [lZ b] at a
    exact .inr ⟨[],l8 g,a⟩
  ·rw [if_pos (by omega)] at a
   rw [if_neg c] at g
   exact .inr ⟨[],l8 g,a⟩
theorem rp {n:Node}{g:List Tensor}(E:Caps n g)(h:n.Op=18):oP n g (Zf n (g.map Tensor.Dims)):=by
 refine hF E (kd:=⟨6,false,0,0,eR⟩) (u:=eR) (ui:=3) (uj:=3) (by rw [h]; rfl) rfl rfl kq kr ks kt (gL (by omega) (by omega) (by rw [h]; rfl) (by rw [h]; rfl) (by rw [h]; rfl) (by rw [if_neg (by omega)]) ⟨by omega,by omega⟩) ⟨by omega,by omega,by omega⟩ (fun F=>by cases F) ?_ ?_ ?_
 ·intro args B; rw [vV]; exact mC B
 ·intro t b L _
  rw [vV]
  refine ⟨_,l8 ?_⟩
  unfold Z1e
  rw [kJ b.d]
  simp only [Option.bind_some,h]
  have e:((n.Ints.length:Int)==3)=false:=by simp; omega
  rw [if_neg (by simp),e]
  simp [dS]
 ·intro D t b
  obtain ⟨f1,I,J,M,O,U,T⟩:=D
  have G:n.Ints.length=3:=by omega
  have a:Z1 n [t]=(Zy t.Dims).bind fun m=>(Z0e m (ix n.Ints 0) (ix n.Ints 1) (ix n.Ints 2)).bind fun j=>(Z03 t j).bind fun l=>some l:=by
   unfold Z1
   simp only [Z1_J1,Z1_J2,h]
   simp only [Int.reduceBEq,Bool.false_eq_true,if_false,if_true,beq_self_eq_true]
   rw [if_pos (by simp)]
   show (Zy t.Dims).bind _=_
   rw [k8 b.d]
   simp only [Option.bind_some]
   rw [if_pos (by omega),if_pos (by omega),if_pos (by omega)]
   rfl
  have i:Z1e n t.Dims=(Z2g (bV t.Dims) (ix n.Ints 0) (ix n.Ints 1) (ix n.Ints 2)).bind fun r=>some r:=by
   unfold Z1e
   rw [kJ b.d]
   simp only [Option.bind_some,h,G]
   rw [if_neg (by simp),if_pos (fun z=>by simp at z),if_neg (by simp),if_pos (by simp),if_pos (by simp),if_pos (by simp),if_pos (by simp)]
  rw [vV]
  rw [k8 b.d] at a
  simp only [Option.bind_some] at a
  rw [rf b.d] at a
  rw [rh b.d] at i
  simp only [Option.bind_some] at a i
  by_cases q:lF t.Dims (ix n.Ints 0) (ix n.Ints 1) (ix n.Ints 2)∧eG (fL t.Dims (ix n.Ints 0) (ix n.Ints 1) (ix n.Ints 2)).Dims
  ·rw [if_pos q] at a i
   have s:=pw b.d q.1 q.2
   obtain ⟨d,d1,d2⟩:=nJ b s rfl
   rw [d1] at a
   exact .inl ⟨⟨_,d⟩,nN i s,a,d2⟩
  ·rw [if_neg q] at a i
   rw [lZ b] at a
   exact .inr ⟨[],l8 i,a⟩
theorem th {s i j}{n:Node}{args:List (List Int)}(h:args.length≠1):Z1q s i j n args=some ([],false):=by
 unfold Z1q
 rw [if_pos (by simp; omega)]
theorem xu {s i j}{n:Node}{ds:List Int}(h:¬ (i≤(n.Ints.length:Int)∧(n.Ints.length:Int)≤j)):Z1q s i j n [ds]=some ([],false):=by
 unfold Z1q
 rw [if_neg (by simp),if_pos (by simp)]
 unfold Z2q
 rw [if_pos (by simp; omega)]
 rfl
theorem uP {s i j}{n:Node}{ds:List Int}(h:i≤(n.Ints.length:Int)∧(n.Ints.length:Int)≤j):Z1q s i j n [ds]=(Z1z n.Ints ds).bind fun r=>some (r.1,r.2.2):=by
 unfold Z1q
 rw [if_neg (by simp),if_pos (by simp)]
 unfold Z2q
 rw [if_neg (by simp; omega)]
 have a:ix [ds] (0:Int)=ds:=rfl
 rw [a]
 cases Z1z n.Ints ds<;>rfl
theorem tj {s i j}{n:Node}{args:List (List Int)}(h:args.length≠1):Z1r s i j n args=some ([],false):=by
 unfold Z1r
 rw [if_pos (by simp; omega)]
theorem xv {s i j}{n:Node}{ds:List Int}(h:¬ (i≤(n.Ints.length:Int)∧(n.Ints.length:Int)≤j)):Z1r s i j n [ds]=some ([],false):=by
 unfold Z1r
 rw [if_neg (by simp),if_pos (by simp)]
 unfold Z2r
 rw [if_pos (by simp; omega)]
 rfl
theorem uQ {s i j}{n:Node}{ds:List Int}(h:i≤(n.Ints.length:Int)∧(n.Ints.length:Int)≤j):Z1r s i j n [ds]=(Z20 n.Ints ds).bind fun r=>some (r.1,r.2.2):=by
 unfold Z1r
 rw [if_neg (by simp),if_pos (by simp)]
 unfold Z2r
 rw [if_neg (by simp; omega)]
 have a:ix [ds] (0:Int)=ds:=rfl
 rw [a]
 cases Z20 n.Ints ds<;>rfl
theorem tl {s i j}{n:Node}{args:List (List Int)}(h:args.length≠1):Z1s s i j n args=some ([],false):=by
 unfold Z1s
 rw [if_pos (by simp; omega)]
theorem xw {s i j}{n:Node}{ds:List Int}(h:¬ (i≤(n.Ints.length:Int)∧(n.Ints.length:Int)≤j)):Z1s s i j n [ds]=some ([],false):=by
 unfold Z1s
 rw [if_neg (by simp),if_pos (by simp)]
 unfold Z2s
 rw [if_pos (by simp; omega)]
 rfl
theorem uR {s i j}{n:Node}{ds:List Int}(h:i≤(n.Ints.length:Int)∧(n.Ints.length:Int)≤j):Z1s s i j n [ds]=(Z21 n.Ints ds).bind fun r=>some (r.1,r.2.2):=by
 unfold Z1s
 rw [if_neg (by simp),if_pos (by simp)]
 unfold Z2s
 rw [if_neg (by simp; omega)]
 have a:ix [ds] (0:Int)=ds:=rfl
 rw [a]
 cases Z21 n.Ints ds<;>rfl
theorem tm {s i j}{n:Node}{args:List (List Int)}(h:args.length≠1):Z1t s i j n args=some ([],false):=by
 unfold Z1t
 rw [if_pos (by simp; omega)]
theorem xx {s i j}{n:Node}{ds:List Int}(h:¬ (i≤(n.Ints.length:Int)∧(n.Ints.length:Int)≤j)):Z1t s i j n [ds]=some ([],false):=by
 unfold Z1t
 rw [if_neg (by simp),if_pos (by simp)]
 unfold Z2t
 rw [if_pos (by simp; omega)]
 rfl
theorem uS {s i j}{n:Node}{ds:List Int}(h:i≤(n.Ints.length:Int)∧(n.Ints.length:Int)≤j):Z1t s i j n [ds]=(Z22 n.Ints ds).bind fun r=>some (r.1,r.2.2):=by
 unfold Z1t
 rw [if_neg (by simp),if_pos (by simp)]
 unfold Z2t
 rw [if_neg (by simp; omega)]
 have a:ix [ds] (0:Int)=ds:=rfl
 rw [a]
 cases Z22 n.Ints ds<;>rfl
theorem xy {n:Node}{e:List Tensor}(F:Caps n e)(h:n.Op=15):oP n e (Zf n (e.map Tensor.Dims)):=by
 refine hF F (kd:=⟨8,false,4,4,eR⟩) (u:=eR) (ui:=4) (uj:=4) (by rw [h]; rfl) rfl rfl kq kr ks kt (gL (by omega) (by omega) (by rw [h]; rfl) (by rw [h]; rfl) (by rw [h]; rfl) (by simp [h]) ⟨by omega,by omega⟩) ⟨by omega,by omega,by omega⟩ (fun I=>by cases I) ?_ ?_ ?_
 ·intro args q; rw [Bt]; exact th q
 ·intro t i G _; rw [Bt]; exact ⟨_,xu G⟩
 ·intro D t i
  obtain ⟨f1,O,T,U,Y,M,L⟩:=D
  have j:Z1 n [t]=(Z0v t (ix n.Ints 0) (ix n.Ints 1) (ix n.Ints 2) (ix n.Ints 3)).bind fun r=>some r:=by
   unfold Z1
   simp only [Z1_J1,Z1_J2,h]
   simp only [Int.reduceBEq,Bool.false_eq_true,if_false,if_true,beq_self_eq_true]
   rw [if_pos (by simp),if_pos (by omega),if_pos (by omega),if_pos (by omega),if_pos (by omega)]
   rfl
  have m:Z1z n.Ints t.Dims=(Z00 t.Dims (ix n.Ints 0) (ix n.Ints 1) (ix n.Ints 2) (ix n.Ints 3)).bind fun r=>some (r.1,r.2.1,r.2.2):=by
   unfold Z1z
   rw [if_pos (by omega),if_pos (by omega),if_pos (by omega),if_pos (by omega)]
  rw [Bt,uP ⟨M,L⟩,m,j]
  obtain ⟨ds,ps,s,J⟩:Sh (Z00 t.Dims (ix n.Ints 0) (ix n.Ints 1) (ix n.Ints 2) (ix n.Ints 3)) (mA t.Dims (ix n.Ints 0) (ix n.Ints 1) (ix n.Ints 2) (ix n.Ints 3)) (t.Dims.set (ix n.Ints 0).toNat (jF t.Dims (ix n.Ints 0) (ix n.Ints 1) (ix n.Ints 2) (ix n.Ints 3))):=zU i.d
  obtain ⟨l,E⟩:=zS (a:=ix n.Ints 0) (b:=ix n.Ints 1) (f:=ix n.Ints 2) (g:=ix n.Ints 3) i
  rw [s]
  by_cases c:mA t.Dims (ix n.Ints 0) (ix n.Ints 1) (ix n.Ints 2) (ix n.Ints 3)
  ·obtain ⟨d,d1,d2⟩:=l c
   have B:=J c
   rw [d1,decide_eq_true c]
   subst B
   exact .inl ⟨⟨_,d⟩,rfl,rfl,d2⟩
  ·rw [E c,decide_eq_false c]
   exact .inr ⟨ds,rfl,rfl⟩
theorem rq {n:Node}{b:List Tensor}(g:Caps n b)(h:n.Op=16):oP n b (Zf n (b.map Tensor.Dims)):=by
 refine hF g (kd:=⟨9,false,1,4097,eR⟩) (u:=eR) (ui:=1) (uj:=4097) (by rw [h]; rfl) rfl rfl kq kr ks kt (gL (by omega) (by omega) (by rw [h]; rfl) (by rw [h]; rfl) (by rw [h]; rfl) (by simp [h]) ⟨by omega,by omega⟩) ⟨by omega,by omega,by omega⟩ (fun G=>by cases G) ?_ ?_ ?_
 ·intro args q; rw [Bu]; exact tj q
 ·intro t e F _; rw [Bu]; exact ⟨_,xv F⟩
 ·intro D t e
  obtain ⟨f1,M,O,T,U,L,J⟩:=D
  have j:Z1 n [t]=(Z0u t (ix n.Ints 0) (n.Ints.drop 1)).bind fun r=>some r:=by
   unfold Z1
   simp only [Z1_J1,Z1_J2,h]
   simp only [Int.reduceBEq,Bool.false_eq_true,if_false,if_true,beq_self_eq_true]
   rw [if_pos (by simp),if_pos (by omega),if_pos (by omega),hD]
   rfl
  have m:Z20 n.Ints t.Dims=(Z0f t.Dims (ix n.Ints 0) (n.Ints.drop 1)).bind fun r=>some (r.1,r.2.1,r.2.2):=by
   unfold Z20
   rw [if_pos (by omega),if_pos (by omega),hD]
   rfl
  rw [Bu,uQ ⟨L,J⟩,m,j]
  obtain ⟨ds,ps,s,I⟩:Sh (Z0f t.Dims (ix n.Ints 0) (n.Ints.drop 1)) (mz t.Dims (ix n.Ints 0) (n.Ints.drop 1)) (t.Dims.set (ix n.Ints 0).toNat ((n.Ints.drop 1).length:Int)):=t6 e.d (by have:=g.i; simp; omega)
  obtain ⟨l,E⟩:=t2 (a:=ix n.Ints 0) (xs:=n.Ints.drop 1) e (by have:=g.i; simp; omega)
  rw [s]
  by_cases c:mz t.Dims (ix n.Ints 0) (n.Ints.drop 1)
  ·obtain ⟨d,d1,d2⟩:=l c
   have B:=I c
   rw [d1,decide_eq_true c]
   subst B
   exact .inl ⟨⟨_,d⟩,rfl,rfl,d2⟩
  ·rw [E c,decide_eq_false c]
   exact .inr ⟨ds,rfl,rfl⟩
theorem pD {n:Node}{b:List Tensor}(g:Caps n b)(h:n.Op=17):oP n b (Zf n (b.map Tensor.Dims)):=by
 refine hF g (kd:=⟨10,false,2,4098,eR⟩) (u:=eR) (ui:=2) (uj:=4098) (by rw [h]; rfl) rfl rfl kq kr ks kt (gL (by omega) (by omega) (by rw [h]; rfl) (by rw [h]; rfl) (by rw [h]; rfl) (by simp [h]) ⟨by omega,by omega⟩) ⟨by omega,by omega,by omega⟩ (fun G=>by cases G) ?_ ?_ ?_
 ·intro args q; rw [xp]; exact tl q
 ·intro t e F _; rw [xp]; exact ⟨_,xw F⟩
 ·intro D t e
  obtain ⟨f1,M,O,T,U,L,J⟩:=D
  have j:Z1 n [t]=(Z0w t (ix n.Ints 0) (n.Ints.drop 2) (ix n.Ints 1)).bind fun r=>some r:=by
   unfold Z1
   simp only [Z1_J1,Z1_J2,h]
   simp only [Int.reduceBEq,Bool.false_eq_true,if_false,if_true,beq_self_eq_true]
   rw [if_pos (by simp),if_pos (by omega),if_pos (by omega),if_pos (by omega),hD]
   rfl
  have m:Z21 n.Ints t.Dims=(Z0g t.Dims (ix n.Ints 0) (n.Ints.drop 2) (ix n.Ints 1)).bind fun r=>some (r.1,r.2.1,r.2.2):=by
   unfold Z21
   rw [if_pos (by omega),if_pos (by omega),if_pos (by omega),hD]
   rfl
  rw [xp,uR ⟨L,J⟩,m,j]
  obtain ⟨ds,ps,s,I⟩:Sh (Z0g t.Dims (ix n.Ints 0) (n.Ints.drop 2) (ix n.Ints 1)) (lG t.Dims (ix n.Ints 0) (n.Ints.drop 2) (ix n.Ints 1)) (t.Dims.set (ix n.Ints 0).toNat (ix n.Ints 1)):=rl e.d (by have:=g.i; simp; omega)
  obtain ⟨l,E⟩:=rk (a:=ix n.Ints 0) (n:=ix n.Ints 1) (xs:=n.Ints.drop 2) e (by have:=g.i; simp; omega)
  rw [s]
  by_cases c:lG t.Dims (ix n.Ints 0) (n.Ints.drop 2) (ix n.Ints 1)
  ·obtain ⟨d,d1,d2⟩:=l c
   have B:=I c
   rw [d1,decide_eq_true c]
   subst B
   exact .inl ⟨⟨_,d⟩,rfl,rfl,d2⟩
  ·rw [E c,decide_eq_false c]
   exact .inr ⟨ds,rfl,rfl⟩
theorem uT {n:Node}{b:List Tensor}(D:Caps n b)(h:n.Op=19):oP n b (Zf n (b.map Tensor.Dims)):=by
 refine hF D (kd:=⟨11,false,3,3,eR⟩) (u:=eR) (ui:=3) (uj:=3) (by rw [h]; rfl) rfl rfl kq kr ks kt (gL (by omega) (by omega) (by rw [h]; rfl) (by rw [h]; rfl) (by rw [h]; rfl) (by simp [h]) ⟨by omega,by omega⟩) ⟨by omega,by omega,by omega⟩ (fun F=>by cases F) ?_ ?_ ?_
 ·intro args l; rw [xq]; exact tm l
 ·intro t e E _; rw [xq]; exact ⟨_,xx E⟩
 ·intro s t e
  obtain ⟨f1,L,M,O,T,J,I⟩:=s
  have g:Z1 n [t]=(Z0t t (ix n.Ints 0) (ix n.Ints 1) (ix n.Ints 2)).bind fun r=>some r:=by
   unfold Z1
   simp only [Z1_J1,Z1_J2,h]
   simp only [Int.reduceBEq,Bool.false_eq_true,if_false,if_true,beq_self_eq_true]
   rw [if_pos (by simp),if_pos (by omega),if_pos (by omega),if_pos (by omega)]
   rfl
  have j:Z22 n.Ints t.Dims=(Z5 t.Dims (ix n.Ints 0) (ix n.Ints 1) (ix n.Ints 2)).bind fun r=>some (r.1,r.2.1,r.2.2):=by
   unfold Z22
   rw [if_pos (by omega),if_pos (by omega),if_pos (by omega)]
  rw [xq,uS ⟨J,I⟩,j,g]
  obtain ⟨ds,ps,m,G⟩:Sh (Z5 t.Dims (ix n.Ints 0) (ix n.Ints 1) (ix n.Ints 2)) (lH t.Dims (ix n.Ints 0) (ix n.Ints 1) (ix n.Ints 2)) ((t.Dims.set (ix n.Ints 0).toNat (ix n.Ints 2)).take (t.Dims.length - 1)):=xe e.d
  obtain ⟨i,B⟩:=xc (a:=ix n.Ints 0) (st:=ix n.Ints 1) (n:=ix n.Ints 2) e
  rw [m]
  by_cases c:lH t.Dims (ix n.Ints 0) (ix n.Ints 1) (ix n.Ints 2)
  ·obtain ⟨d,d1,d2⟩:=i c
   have q:=G c
   rw [d1,decide_eq_true c]
   subst q
   exact .inl ⟨⟨_,d⟩,rfl,rfl,d2⟩
  ·rw [B c,decide_eq_false c]
   exact .inr ⟨ds,rfl,rfl⟩
def LT (s:aM):Prop:=s.length≤6∧∀ c∈s,97≤c.toNat∧c.toNat≤122
instance (s:aM):Decidable (LT s):=by unfold LT; infer_instance
theorem ne {s:aM}(g:s.length<b'):Z0y s=some (decide (LT s)):=by
 unfold Z0y
 have:=eP s (fun i:Int=>Z0y_L1 s i) (fun i=>i) (fun c=>decide (97≤c.toNat∧c.toNat≤122)) (.inl false) (.inr ())
  (fun k b=>by
   have a:bt s (k:Int)=((ix s (k:Int)).toNat:Int):=rfl
   simp only [Z0y_L1]
   rw [if_pos (by simp; omega),if_pos (by omega),bW (by omega)]
   by_cases q:97≤(ix s (k:Int)).toNat∧(ix s (k:Int)).toNat≤122
   ·rw [if_neg (by simp only [Bool.or_eq_true,decide_eq_true_eq,a]; omega),decide_eq_true q,if_pos rfl]
   ·rw [if_pos (by simp only [Bool.or_eq_true,decide_eq_true_eq,a]; omega),decide_eq_false q,if_neg (by simp)])
  (by simp only [Z0y_L1]; rw [if_neg (by simp)])
 rw [this]
 have e:(s.all fun c=>decide (97≤c.toNat∧c.toNat≤122))=decide (∀ c∈s,97≤c.toNat∧c.toNat≤122):=by
  rw [Bool.eq_iff_iff]
  simp only [List.all_eq_true,decide_eq_true_eq]
 rw [e]
 by_cases c:∀ c∈s,97≤c.toNat∧c.toNat≤122
 ·rw [decide_eq_true c,if_pos rfl]
  show some (decide ((s.length:Int)≤6))=_
  congr 1
  rw [Bool.eq_iff_iff]
  simp only [decide_eq_true_eq]
  exact ⟨fun h=>⟨by omega,c⟩,fun h=>by have:=h.1; omega⟩
 ·rw [decide_eq_false c,decide_eq_false (fun z:LT s=>c z.2)]; rfl
theorem kP {a b:UInt8}:((a.toNat:Int)==(b.toNat:Int))=decide (a=b):=by
 rw [Bool.eq_iff_iff]
 simp only [beq_iff_eq,decide_eq_true_eq]
 exact ⟨fun h=>UInt8.toNat_inj.1 (by omega),fun h=>by rw [h]⟩
theorem vW {s:aM}(j:s.length<b')(b:UInt8):Z0x s (b.toNat:Int)=some (decide (b∈s)):=by
 unfold Z0x
 have:=eP s (fun i:Int=>Z0x_L1 s (b.toNat:Int) i) (fun i=>i) (fun c=>!(decide (c=b))) (.inl true) (.inr ())
  (fun k h=>by
   have a:(bt s (k:Int)==(b.toNat:Int))=decide (ix s (k:Int)=b):=kP
   simp only [Z0x_L1]
   rw [if_pos (by simp; omega),if_pos (by omega),bW (by omega),a]
   cases decide (ix s (k:Int)=b)<;>rfl)
  (by simp only [Z0x_L1]; rw [if_neg (by simp)])
 rw [this]
 by_cases c:b∈s
 ·have e:(s.all fun c=>!(decide (c=b)))=false:=by
   rw [List.all_eq_false]; exact ⟨b,c,by simp⟩
  rw [e,decide_eq_true c]; rfl
 ·have e:(s.all fun c=>!(decide (c=b)))=true:=by
   rw [List.all_eq_true]; intro x g
   have:x≠b:=fun q=>c (q▸g)
   simp [this]
  rw [e,decide_eq_false c]; rfl
theorem rr (c:UInt8):((c.toNat:Int)).toNat.toUInt8=c:=by
 rw [Int.toNat_natCast]
 exact UInt8.ofNat_toNat
theorem tn (s:aM)(c:UInt8):(Lib.indexByte s c<0)↔c ∉ s:=by
 induction s with
 | nil=>simp [Lib.indexByte]
 | cons b l ih =>
  unfold Lib.indexByte
  by_cases e:b=c
  ·subst e; simp
  ·have a:(b==c)=false:=by simpa using e
   have:=Lib.indexByte_ge l c
   rw [a]
   simp only [Bool.false_eq_true,if_false,List.mem_cons,not_or]
   rw [← ih]
   by_cases q:Lib.indexByte l c = -1
   ·rw [q]; simp; exact fun z=>e z.symm
   ·rw [if_neg (by simpa using q)]
    exact ⟨fun z=>by omega,fun z=>by omega⟩
theorem nO (s:aM)(c:UInt8):∃ r,Z1v s (c.toNat:Int)=some r∧(r<0↔c ∉ s):=by
 unfold Z1v dB
 rw [rr]
 exact ⟨_,rfl,tn s c⟩
def pE:aM→Option (aM×aM)
 | []=>none
 | [_]=>none
 | x::y::r=>if x=45∧y=62 then some ([],r) else (pE (y::r)).map fun p=>(x::p.1,p.2)
def ce:aM→Nat
 | []=>0
 | [_]=>0
 | x::y::r=>if x=45∧y=62 then 0 else ce (y::r)+1
theorem kQ:∀ {s l o:aM},pE s=some (l,o)→ce s=l.length∧s=l++45::62::o
 | [],_,_,h=>by cases h
 | [_],_,_,h=>by cases h
 | x::y::r,l,o,h=>by
  unfold pE at h; unfold ce
  by_cases c:x=45∧y=62
  ·rw [if_pos c] at h ⊢
   obtain ⟨rfl,rfl⟩:=c
   cases h
   exact ⟨rfl,rfl⟩
  ·rw [if_neg c] at h ⊢
   obtain ⟨⟨e,o'⟩,h1,h2⟩:=Option.map_eq_some_iff.1 h
   cases h2
   obtain ⟨b,a⟩:=kQ h1
   exact ⟨by rw [b]; rfl,by rw [a]; rfl⟩
theorem qz:∀ {s:aM},pE s=none→s.length≤ce s+1
 | [],h=>by simp
 | [_],h=>by simp
 | x::y::r,h=>by
  unfold pE at h; unfold ce
  by_cases c:x=45∧y=62
  ·rw [if_pos c] at h; cases h
  ·rw [if_neg c] at h ⊢
   have:=qz (s:=y::r) (by simpa using h)
   simp at this ⊢; omega
theorem qB:∀ {s:aM} {j:Nat},j<ce s→j+1<s.length∧(s.drop j).take 2≠[45,62]
 | [],_,h=>by simp [ce] at h
 | [_],_,h=>by simp [ce] at h
 | x::y::r,j,h=>by
  unfold ce at h
  by_cases c:x=45∧y=62
  ·rw [if_pos c] at h; omega
  ·rw [if_neg c] at h
   cases j with
   | zero=>exact ⟨by simp,by simpa using c⟩
   | succ j =>
    obtain ⟨a,b⟩:=qB (s:=y::r) (j:=j) (by omega)
    exact ⟨by simp at a ⊢; omega,by simpa using b⟩
theorem vX:∀ {s:aM},ce s+1<s.length→(s.drop (ce s)).take 2=[45,62]
 | [],h=>by simp at h
 | [_],h=>by simp [ce] at h
 | x::y::r,h=>by
  unfold ce at h ⊢
  by_cases c:x=45∧y=62
  ·rw [if_pos c]; obtain ⟨rfl,rfl⟩:=c; rfl
  ·rw [if_neg c] at h ⊢
   have:=vX (s:=y::r) (by simp at h ⊢; omega)
   simpa using this
theorem nf:∀ (s:aM),Lib.index s str0=match pE s with | some p=>(p.1.length:Int) | none => -1
 | []=>rfl
 | [x]=>by
  unfold Lib.index pE
  simp [str0,Lib.index]
 | x::y::r=>by
  unfold Lib.index pE
  by_cases c:x=45∧y=62
  ·obtain ⟨rfl,rfl⟩:=c
   rw [if_pos (by simp [str0]),if_pos ⟨rfl,rfl⟩]; rfl
  ·rw [if_neg (by simp [str0]; intro a b; exact c ⟨a.symm,b.symm⟩),if_neg c,nf (y::r)]
   cases pE (y::r) with
   | none=>rfl
   | some p =>
    simp only [Option.map_some]
    rw [if_neg (by simp)]
    simp
def pre (p:aM):List aM→List aM
 | []=>[p]
 | g::gs=>(p++g)::gs
def fM:aM→List aM
 | []=>[[]]
 | x::r=>if x=44 then []::fM r else pre [x] (fM r)
theorem kR (x:UInt8)(r:aM):fM (x::r)=if x=44 then []::fM r else pre [x] (fM r):=rfl
theorem xz (p:aM)(gs:List aM):pre p gs≠[]:=by cases gs<;>simp [pre]
theorem l9 (s:aM):fM s≠[]:=by
 cases s with
 | nil=>simp [fM]
 | cons x r=>unfold fM; split; simp; exact xz _ _
theorem qC {gs:List aM}(h:gs≠[]):pre [] gs=gs:=by
 cases gs with
 | nil=>exact absurd rfl h
 | cons g gs=>rfl
theorem uU (p q:aM)(gs:List aM):pre p (pre q gs)=pre (p++q) gs:=by
 cases gs<;>simp [pre]
theorem uV (s:aM):(fM s).length=s.count 44+1:=by
 induction s with
 | nil=>rfl
 | cons x r ih =>
  unfold fM
  by_cases c:x=44
  ·subst c; simp [ih]
  ·rw [if_neg c,List.count_cons_of_ne (fun z=>c z)]
   cases h:fM r with
   | nil=>exact absurd h (l9 r)
   | cons g gs=>rw [h] at ih; simpa [pre] using ih
theorem xA {s:aM}(h:s.count 44=0):fM s=[s]:=by
 induction s with
 | nil=>rfl
 | cons x r ih =>
  have c:x≠44:=by intro q; subst q; simp at h
  rw [List.count_cons_of_ne (fun z=>c z)] at h
  unfold fM
  rw [if_neg c,ih h]; rfl
theorem uW (s:aM)(c:UInt8)(a:c≠44):(∃ g∈fM s,c∈g)↔c∈s:=by
 induction s with
 | nil=>simp [fM]
 | cons x r ih =>
  unfold fM
  by_cases q:x=44
  ·subst q
   rw [if_pos rfl]
   simp [a,ih]
  ·rw [if_neg q,List.mem_cons,← ih]
   cases h:fM r with
   | nil=>exact absurd h (l9 r)
   | cons g gs=>simp [pre,or_assoc]
theorem vY:∀ {x:aM},x.count 44≠0→∃ g r,x=g++44::r∧Lib.index x str6=(g.length:Int)∧fM x=g::fM r∧x.count 44=r.count 44+1
 | [],h=>by simp at h
 | b::l,h=>by
  by_cases c:b=44
  ·subst c
   exact ⟨[],l,rfl,by unfold Lib.index; simp [str6],by rw [kR,if_pos rfl],by simp⟩
  ·rw [List.count_cons_of_ne (fun z=>c z)] at h
   obtain ⟨g,r,h1,h2,e,a⟩:=vY h
   refine ⟨b::g,r,by rw [h1]; rfl,?_,?_,?_⟩
   ·unfold Lib.index
    rw [if_neg (by simp [str6]; exact fun z=>c z.symm),h2,if_neg (by simp)]
    simp
   ·rw [kR,if_neg c,e]; rfl
   ·rw [List.count_cons_of_ne (fun z=>c z)]; exact a
theorem uX {p:aM}(M:p.length≤1048576):Z33 p str6=some (fM p):=by
 have Y:p.count 44≤p.length:=List.count_le_length
 have m:(if (aH ((p.length:Int)+1))<((p.count 44+1:Nat):Int) then (aH ((p.length:Int)+1)) else ((p.count 44+1:Nat):Int))=((p.count 44+1:Nat):Int):=by
  rw [bW (by unfold b'; omega),if_neg (by omega)]
 have hw:aH (((p.count 44+1:Nat):Int) - 1)=(p.count 44:Int):=by rw [bC (by omega) (by omega)]; omega
 unfold Z33 Z0l
 rw [if_neg (by decide),if_neg (by simp [str6]),if_pos (by decide)]
 have h:Z3c p str6=some (p.count 44:Int):=rfl
 rw [h]
 simp only [Option.bind_some]
 rw [bW (by unfold b'; omega)]
 unfold Z0l_J2
 rw [m,if_pos (by omega),Int.toNat_natCast]
 obtain ⟨e,L,E⟩:=hY (f:=fun s:aM×List aM×Int=>Z0l_L1 p str6 0 ((p.count 44+1:Nat):Int) s.1 s.2.1 s.2.2)
  (fun j s=>s.2.2=(j:Int)∧s.2.1.length=p.count 44+1∧s.2.1.take j++fM s.1=fM p∧s.1.count 44+j=p.count 44∧s.1.length≤1048576) (p.count 44)
  (Post:=fun e=>e.2.2=(p.count 44:Int)∧e.2.1.length=p.count 44+1∧e.2.1.take (p.count 44)++[e.1]=fM p)
  (fun j s Z u=>by
   obtain ⟨x,a,i⟩:=s
   obtain ⟨h1,h2,b,q,B⟩:=u
   simp only at h1 h2 b q B
   subst h1
   obtain ⟨g,r,g1,J,F,U⟩:=vY (x:=x) (by omega)
   have hx:x.length=g.length+1+r.length:=by rw [g1]; simp; omega
   have O:Z2d x str6=some (g.length:Int):=by
    unfold Z2d cI
    rw [if_pos (by omega),J]; rfl
   have D:aH ((g.length:Int)+0)=(g.length:Int):=by rw [bC (by omega) (by omega)]; omega
   have I:aH ((g.length:Int)+((str6.length:Nat):Int))=((g.length+1:Nat):Int):=by
    show aH ((g.length:Int)+1)=_
    exact bW (by unfold b'; omega)
   refine ⟨(r,a.set j g,((j+1:Nat):Int)),?_,rfl,by simpa using h2,?_,by show r.count 44+(j+1)=_; omega,by show r.length≤_; omega⟩
   ·simp only [Z0l_L1]
    rw [m,hw,if_pos (by simp; omega),O]
    simp only [Option.bind_some]
    rw [if_neg (by simp),D,if_pos (by omega),if_pos (by simp; omega)]
    have G:sub x 0 (g.length:Int)=g:=by rw [kM,g1]; simp
    have T:sub x ((g.length+1:Nat):Int) (x.length:Int)=r:=by rw [hD,Int.toNat_natCast,g1,List.drop_append]; simp
    rw [I,G,Int.toNat_natCast]
    simp only [nm,Option.bind_some]
    rw [if_pos (by omega),T,bW (by unfold b'; omega)]
   ·rw [← b,F,List.take_set]
    have l:j<a.length:=by omega
    rw [List.take_succ_eq_append_getElem l,List.set_append_right _ _ (by simp; omega)]
    simp [Nat.min_eq_left (Nat.le_of_lt l)]
    )
  (fun s u=>by
   obtain ⟨x,a,i⟩:=s
   obtain ⟨h1,h2,b,q,B⟩:=u
   simp only at h1 h2 b q B
   subst h1
   rw [xA (by omega)] at b
   refine ⟨(x,a,(p.count 44:Int)),?_,rfl,h2,b⟩
   simp only [Z0l_L1]
   rw [m,hw,if_neg (by simp)])
  (s:=(p,List.replicate (p.count 44+1) [],0)) ⟨rfl,by simp,by simp,by simp,M⟩
 rw [L]
 obtain ⟨x,a,i⟩:=e
 obtain ⟨h1,h2,b⟩:=E
 simp only at h1 h2 b
 subst h1
 simp only [Option.bind_some,Z0l_J3]
 rw [m,if_pos (by simp; omega),bW (by unfold b'; omega),if_pos (by simp; omega),Int.toNat_natCast]
 simp only [Option.bind_some]
 congr 1
 rw [kM,List.take_set,← b]
 have l:p.count 44<a.length:=by omega
 rw [List.take_succ_eq_append_getElem l,List.set_append_right _ _ (by simp; omega)]
 simp [Nat.min_eq_left (Nat.le_of_lt l)]
def OL (gs:List aM)(o:aM)(i:Nat):Prop:=(∃ g∈gs,ix o (i:Int)∈g)∧ix o (i:Int) ∉ o.take i
instance (gs:List aM)(o:aM)(i:Nat):Decidable (OL gs o i):=by unfold OL; infer_instance
def PO (gs:List aM)(o:aM):Prop:=gs.length≤6∧LT o∧(∀ g∈gs,LT g)∧∀ i∈List.range o.length,OL gs o i
instance (gs:List aM)(o:aM):Decidable (PO gs o):=by unfold PO; infer_instance
def parts (form:aM):List aM×aM×Bool:=match pE form with
 | none=>([],[],false)
 | some p=>if PO (fM p.1) p.2 then (fM p.1,p.2,true) else ([],[],false)
theorem Bv {form:aM}(i:form.length≤1048576):aR (fun s:Int=>Z0_L1 form s) 0=some (ce form:Int):=by
 have w:∀ j:Nat,j≤1048576→aH ((j:Int)+1)=((j+1:Nat):Int)∧aH ((j:Int)+2)=((j+2:Nat):Int):=by
  intro j g
  exact ⟨bW (by unfold b'; omega),by rw [bC (by omega) (by omega)]; omega⟩
 have e:∀ j:Nat,sub form (j:Int) ((j+2:Nat):Int)=(form.drop j).take 2:=by
  intro j
  unfold sub
  rw [Int.toNat_natCast,Int.toNat_natCast,List.drop_take]
  congr 1; omega
 have h:ce form≤form.length:=by
  by_cases c:ce form=0
  ·omega
  ·have:=(qB (s:=form) (j:=ce form - 1) (by omega)).1; omega
 refine eC (f:=fun s:Int=>Z0_L1 form s) (fun j=>(j:Int)) (ce form) (fun j g=>?_) ?_ rfl
 ·obtain ⟨a,b⟩:=qB g
  simp only [Z0_L1]
  rw [(w j (by omega)).1,(w j (by omega)).2,e,if_pos (fun _=>by omega),if_pos]
  simp only [Bool.and_eq_true,decide_eq_true_eq,Bool.not_eq_true',beq_eq_false_iff_ne]
  exact ⟨by omega,b⟩
 ·simp only [Z0_L1]
  rw [(w _ (by omega)).1,(w _ (by omega)).2,e]
  by_cases c:ce form+1<form.length
  ·rw [if_pos (fun _=>by omega),if_neg]
   rw [vX c]; simp [str0]
  ·rw [if_pos (fun z=>by simp at z; omega),if_neg]
   simp only [Bool.and_eq_true,decide_eq_true_eq]
   omega
theorem tp {form l o:aM}(Z:form.length≤1048576)(h:pE form=some (l,o)):aR (fun s:List aM×Int×Int=>Z0_L2 form (l.length:Int) s.1 s.2.1 s.2.2) ([],0,0)=some (fM l):=by
 obtain ⟨U,G⟩:=kQ h
 have Y:form.length=l.length+2+o.length:=by rw [G]; simp; omega
 obtain ⟨r,O,M⟩:=hY (f:=fun s:List aM×Int×Int=>Z0_L2 form (l.length:Int) s.1 s.2.1 s.2.2)
  (fun j s=>s.2.2=(j:Int)∧s.1.length≤j∧((∃ F:Nat,F≤j∧s.2.1=(F:Int)∧j≤l.length∧s.1++pre ((l.take j).drop F) (fM (l.drop j))=fM l)∨(j=l.length+1∧s.1=fM l))) (l.length+1)
  (Post:=fun r=>r=fM l)
  (fun j s hj B=>by
   obtain ⟨gs,m,i⟩:=s
   obtain ⟨h1,h2,u⟩:=B
   simp only at h1 h2 u
   subst h1
   rcases u with ⟨F,f1,J,L,e⟩|⟨q,_⟩
   ·subst J
    have I:sub form (F:Int) (j:Int)=(l.take j).drop F:=by
     unfold sub
     rw [Int.toNat_natCast,Int.toNat_natCast,G,List.take_append_of_le_length L]
    simp only [Z0_L2]
    rw [if_pos (by simp; omega),if_pos (fun _=>by omega)]
    by_cases c:j=l.length
    ·rw [if_pos (by simp [c]),if_pos (by omega),I,if_pos (by simp; omega)]
     simp only [Z0_J3]
     refine ⟨_,by rw [bW (by unfold b'; omega)],rfl,by simp; omega,.inr ⟨by omega,?_⟩⟩
     subst c
     rw [List.drop_length] at e
     simpa [fM,pre] using e
    ·have g:j<l.length:=by omega
     have T:l.drop j=l[j]::l.drop (j+1):=List.drop_eq_getElem_cons g
     have D:(bt form (j:Int)==44)=decide (l[j]=44):=by
      have:ix form (j:Int)=l[j]:=by
       rw [bS (by omega)]
       simp only [G]
       rw [List.getElem_append_left g]
      unfold bt
      rw [this]
      have:=kP (a:=l[j]) (b:=44)
      simpa using this
     have E:((j:Int)==(l.length:Int))=false:=by simp; omega
     rw [D,E,Bool.false_or]
     rw [T,kR] at e
     by_cases q:l[j]=44
     ·rw [decide_eq_true q,if_pos rfl,if_pos (by omega),I,if_pos (by simp; omega)]
      simp only [Z0_J3]
      rw [bW (by unfold b'; omega)]
      refine ⟨_,rfl,rfl,by simp; omega,.inl ⟨j+1,Nat.le_refl _,rfl,by omega,?_⟩⟩
      rw [if_pos q] at e
      have z:List.drop (j+1) (List.take (j+1) l)=[]:=List.drop_of_length_le (by simp; omega)
      rw [z,qC (l9 _),← e]
      simp [pre]
     ·rw [decide_eq_false q,if_neg (by simp)]
      simp only [Z0_J3]
      rw [bW (by unfold b'; omega)]
      refine ⟨_,rfl,rfl,by show gs.length≤_; omega,.inl ⟨F,by omega,rfl,by omega,?_⟩⟩
      rw [if_neg q,uU] at e
      rw [← e,List.take_succ_eq_append_getElem g,List.drop_append_of_le_length (by simp; omega)]
   ·omega)
  (fun s B=>by
   obtain ⟨gs,m,i⟩:=s
   obtain ⟨h1,h2,u⟩:=B
   simp only at h1 h2 u
   subst h1
   rcases u with ⟨F,f1,J,L,e⟩|⟨_,q⟩
   ·omega
   ·refine ⟨gs,?_,q⟩
    simp only [Z0_L2]
    rw [if_neg (by simp; omega)])
  (s:=([],0,0)) ⟨rfl,by simp,.inl ⟨0,by omega,rfl,by omega,by simp [qC (l9 l)]⟩⟩
 rw [O,M]
theorem pF {s g:aM}(h:g∈fM s):g.length≤s.length:=by
 induction s generalizing g with
 | nil=>simp [fM] at h; simp [h]
 | cons x r ih =>
  rw [kR] at h
  by_cases c:x=44
  ·rw [if_pos c] at h
   rcases List.mem_cons.1 h with q | q
   ·simp [q]
   ·have:=ih q; simp; omega
  ·rw [if_neg c] at h
   cases e:fM r with
   | nil=>exact absurd e (l9 r)
   | cons g' gs =>
    rw [e] at h ih
    simp only [pre,List.mem_cons] at h
    rcases h with q | q
    ·have:=ih (g:=g') (by simp); rw [q]; simp; omega
    ·have:=ih (g:=g) (by simp [q]); simp; omega
theorem zV {gs:List aM}{o:aM}{form:aM}{x i:Int}(r:gs.length<b')(h:∀ g∈gs,g.length<b')(e:sub form (aH (x+2)) (form.length:Int)=o)(l:0≤i∧i<(o.length:Int)) :
  aR (fun s:Bool×Int=>Z0_L5 form x gs i s.1 s.2) (false,0)=some (decide (∃ g∈gs,ix o i∈g)):=by
 have q:∀ b:Bool,decide (∃ g∈gs,ix o i∈g)=gs.any fun g=>decide (ix o i∈g):=by
  intro _
  rw [Bool.eq_iff_iff]; simp
 rw [q true]
 refine eC (f:=fun s:Bool×Int=>Z0_L5 form x gs i s.1 s.2) (fun j=>((gs.take j).any fun g=>decide (ix o i∈g),(j:Int))) gs.length (fun j a=>?_) ?_ rfl
 ·simp only [Z0_L5]
  rw [e,if_pos (by simp; omega),if_pos (fun _=>by omega),if_pos (fun _=>l),List.take_succ_eq_append_getElem a,List.any_append,bW (by omega),bS a]
  have m:bt o i=((ix o i).toNat:Int):=rfl
  rw [m,vW (h _ (List.getElem_mem a))]
  cases (gs.take j).any fun g=>decide (ix o i∈g) with
  | true=>simp [bQ]
  | false=>simp [bQ]
 ·simp only [Z0_L5]
  rw [if_neg (by simp),List.take_length]
theorem uY {form:aM}(F:form.length≤1048576):Z0 form=some (parts form):=by
 unfold Z0
 rw [Bv F]
 simp only [Option.bind_some,Z0_J1]
 unfold parts
 have L:ce form≤form.length:=by
  by_cases c:ce form=0
  ·omega
  ·have:=(qB (s:=form) (j:=ce form - 1) (by omega)).1; omega
 rw [bW (by unfold b'; omega)]
 cases h:pE form with
 | none =>
  have:=qz h
  rw [if_pos (by simp; omega)]
 | some p =>
  obtain ⟨l,o⟩:=p
  obtain ⟨J,G⟩:=kQ h
  have M:form.length=l.length+2+o.length:=by rw [G]; simp; omega
  rw [if_neg (by simp; omega),J,tp F h]
  simp only [Option.bind_some]
  have E:aH ((l.length:Int)+2)=((l.length+2:Nat):Int):=by rw [bC (by omega) (by omega)]; omega
  have b:sub form (aH ((l.length:Int)+2)) (form.length:Int)=o:=by
   rw [E,hD,Int.toNat_natCast,G,List.drop_append]
   simp
  have m:(fM l).length<b':=by
   rw [uV]; have:l.count 44≤l.length:=List.count_le_length; unfold b'; omega
  unfold Z0_J4
  rw [b,if_pos (by rw [E]; omega),ne (by unfold b'; omega)]
  by_cases c1:(fM l).length≤6
  ·have d1:decide (((fM l).length:Int)>6)=false:=by simp; omega
   rw [d1]
   simp only [bQ,Bool.not_false,cond_true,Option.bind_some,Bool.false_or]
   by_cases c2:LT o
   ·rw [decide_eq_true c2,if_neg (by simp)]
    have B:=eP (fM l) (fun s:Int=>Z0_L3 (fM l) s) (fun i=>i) (fun g=>decide (LT g)) (.inl ([],[],false)) (.inr ())
     (fun k D=>by
      simp only [Z0_L3]
      rw [if_pos (by simp; omega),if_pos (by omega),bW (by omega),ne (by have:=pF (bE D); unfold b'; omega)]
      cases decide (LT (ix (fM l) (k:Int)))<;>rfl)
     (by simp only [Z0_L3]; rw [if_neg (by simp)])
    rw [B]
    by_cases c3:∀ g∈fM l,LT g
    ·have q:((fM l).all fun g=>decide (LT g))=true:=by
      rw [List.all_eq_true]; intro g a; exact decide_eq_true (c3 g a)
     rw [q,if_pos rfl]
     simp only [Option.bind_some]
     unfold Z0_J5
     have e:=j1 o.length (fun s:Int=>Z0_L4 form (l.length:Int) (fM l) s) (fun i=>i) (fun k=>decide (OL (fM l) o k)) (.inl ([],[],false)) (.inr ())
      (fun k D=>by
       simp only [Z0_L4]
       rw [b,if_pos (by simp; omega),zV m (fun g a=>by have:=pF a; unfold b'; omega) b (by omega)]
       simp only [Option.bind_some,Z0_J7]
       rw [b,if_pos (fun _=>by omega),if_pos (fun _=>by omega),kM]
       have u:bt o (k:Int)=((ix o (k:Int)).toNat:Int):=rfl
       rw [u,vW (by simp; unfold b'; omega),bW (by unfold b'; omega)]
       by_cases q1:∃ g∈fM l,ix o (k:Int)∈g
       ·by_cases q2:ix o (k:Int)∈o.take k
        ·rw [decide_eq_true q1,decide_eq_true q2,decide_eq_false (fun z:OL (fM l) o k=>z.2 q2)]; rfl
        ·rw [decide_eq_true q1,decide_eq_false q2,show decide (OL (fM l) o k)=true from decide_eq_true ⟨q1,q2⟩]; rfl
       ·rw [decide_eq_false q1,decide_eq_false (fun z:OL (fM l) o k=>q1 z.1)]; rfl)
      (by simp only [Z0_L4]; rw [b,if_neg (by simp)])
     rw [e]
     by_cases c4:∀ i∈List.range o.length,OL (fM l) o i
     ·have r:((List.range o.length).all fun k=>decide (OL (fM l) o k))=true:=by
       rw [List.all_eq_true]; intro g a; exact decide_eq_true (c4 g a)
      rw [r,if_pos rfl,if_pos ⟨c1,c2,c3,c4⟩]
      simp only [Option.bind_some,Z0_J8]
      rw [b]
     ·have r:((List.range o.length).all fun k=>decide (OL (fM l) o k))=false:=by
       rw [Bool.eq_false_iff]; intro z
       exact c4 fun i I=>of_decide_eq_true (List.all_eq_true.1 z i I)
      rw [r,if_neg (by simp),if_neg (fun z=>c4 z.2.2.2)]; rfl
    ·have q:((fM l).all fun g=>decide (LT g))=false:=by
      rw [Bool.eq_false_iff]; intro z
      exact c3 fun g a=>of_decide_eq_true (List.all_eq_true.1 z g a)
     rw [q,if_neg (by simp),if_neg (fun z=>c3 z.2.2.1)]; rfl
   ·rw [decide_eq_false c2,if_pos (by simp),if_neg (fun z=>c2 z.2.1)]
  ·have d1:decide (((fM l).length:Int)>6)=true:=by simp; omega
   rw [d1,if_neg (fun z=>c1 z.1)]
   simp [bQ]
theorem zW {form:aM}(m:form.length≤1048576):Z32 form str0=some (match pE form with | none=>(form,[],false) | some p=>(p.1,p.2,true)):=by
 unfold Z32 dX cI
 rw [if_pos (by omega),nf]
 simp only [Option.bind_some]
 cases h:pE form with
 | none=>simp
 | some p =>
  obtain ⟨l,o⟩:=p
  obtain ⟨i,a⟩:=kQ h
  have j:form.length=l.length+2+o.length:=by rw [a]; simp; omega
  have e:aH ((l.length:Int)+((str0.length:Nat):Int))=((l.length+2:Nat):Int):=by
   show aH ((l.length:Int)+2)=_
   rw [bC (by omega) (by omega)]; omega
  simp only
  rw [if_pos (by simp),if_pos (by omega),e,if_pos (by omega)]
  have b:sub form 0 (l.length:Int)=l:=by rw [kM,a]; simp
  have g:sub form ((l.length+2:Nat):Int) (form.length:Int)=o:=by
   rw [hD,Int.toNat_natCast,a,List.drop_append]; simp
  rw [b,g]; rfl
theorem uZ {gs:List aM}{x:Nat}(e:x<gs.length)(h:(ix gs (x:Int)).length<b') :
  aR (fun s:Int=>Ze_L2 gs (x:Int) s) 0=some (if ∀ c∈ix gs (x:Int),97≤c.toNat∧c.toNat≤122 then .inr () else .inl ([],[],false)):=by
 obtain ⟨g,a⟩:∃ g,g=ix gs (x:Int):=⟨_,rfl⟩
 have:=eP g (fun s:Int=>Ze_L2 gs (x:Int) s) (fun i=>i) (fun c=>decide (97≤c.toNat∧c.toNat≤122)) (.inl ([],[],false)) (.inr ())
  (fun k j=>by
   have b:bt g (k:Int)=((ix g (k:Int)).toNat:Int):=rfl
   simp only [Ze_L2]
   rw [← a,if_pos (by simp; omega),if_pos (by omega),bW (by rw [← a] at h; omega)]
   by_cases q:97≤(ix g (k:Int)).toNat∧(ix g (k:Int)).toNat≤122
   ·rw [if_neg (by simp only [Bool.or_eq_true,decide_eq_true_eq,b]; omega),decide_eq_true q,if_pos rfl]
   ·rw [if_pos (by simp only [Bool.or_eq_true,decide_eq_true_eq,b]; omega),decide_eq_false q,if_neg (by simp)])
  (by simp only [Ze_L2]; rw [← a,if_neg (by simp)])
 rw [this,← a]
 by_cases c:∀ c∈g,97≤c.toNat∧c.toNat≤122
 ·rw [if_pos c,if_pos (by rw [List.all_eq_true]; intro x e; exact decide_eq_true (c x e))]
 ·rw [if_neg c,if_neg]
  intro z
  exact c fun x e=>of_decide_eq_true (List.all_eq_true.1 z x e)
theorem u' {form:aM}(T:form.length≤1048576):Ze form=some (parts form):=by
 unfold Ze parts
 rw [zW T]
 simp only [Option.bind_some]
 cases h:pE form with
 | none=>simp
 | some p =>
  obtain ⟨l,o⟩:=p
  obtain ⟨Y,U⟩:=kQ h
  have Z:form.length=l.length+2+o.length:=by rw [U]; simp; omega
  simp only [Bool.not_true,Bool.false_or]
  by_cases c0:o.length≤6
  ·rw [if_neg (by simp; omega),uX (by omega)]
   simp only [Option.bind_some]
   by_cases c1:(fM l).length≤6
   ·rw [if_neg (by simp; omega)]
    have E:=eP (fM l) (fun s:Int=>Ze_L1 (fM l) s) (fun i=>i) (fun g=>decide (LT g)) (.inl ([],[],false)) (.inr ())
     (fun k b=>by
      have e:=pF (bE b)
      simp only [Ze_L1]
      rw [if_pos (by simp; omega),if_pos (by omega)]
      by_cases q1:(ix (fM l) (k:Int)).length≤6
      ·rw [if_neg (by simp; omega),uZ b (by unfold b'; omega)]
       by_cases q2:∀ c∈ix (fM l) (k:Int),97≤c.toNat∧c.toNat≤122
       ·rw [if_pos q2,show decide (LT (ix (fM l) (k:Int)))=true from decide_eq_true ⟨q1,q2⟩,if_pos rfl]
        simp only [Option.bind_some,Ze_J2]
        rw [bW (by unfold b'; omega)]
       ·rw [if_neg q2,show decide (LT (ix (fM l) (k:Int)))=false from decide_eq_false (fun z=>q2 z.2),if_neg (by simp)]; rfl
      ·rw [if_pos (by simp; omega),show decide (LT (ix (fM l) (k:Int)))=false from decide_eq_false (fun z=>q1 z.1),if_neg (by simp)])
     (by simp only [Ze_L1]; rw [if_neg (by simp)])
    rw [E]
    by_cases c3:∀ g∈fM l,LT g
    ·have B:((fM l).all fun g=>decide (LT g))=true:=by
      rw [List.all_eq_true]; intro g e; exact decide_eq_true (c3 g e)
     rw [B,if_pos rfl]
     simp only [Option.bind_some]
     unfold Ze_J3
     have F:=j1 o.length (fun s:Int=>Ze_L3 (l,o,true) s) (fun i=>i) (fun k=>decide ((97≤(ix o (k:Int)).toNat∧(ix o (k:Int)).toNat≤122)∧OL (fM l) o k)) (.inl ([],[],false)) (.inr ())
      (fun k b=>by
       have a:bt o (k:Int)=((ix o (k:Int)).toNat:Int):=rfl
       simp only [Ze_L3]
       rw [if_pos (by simp; omega),if_pos (by omega),bW (by unfold b'; omega),kM]
       by_cases q:97≤(ix o (k:Int)).toNat∧(ix o (k:Int)).toNat≤122
       ·have m:(decide (bt o (k:Int)<97)||decide (bt o (k:Int)>122))=false:=by
         rw [Bool.eq_false_iff]; simp only [ne_eq,Bool.or_eq_true,decide_eq_true_eq,a]; omega
        rw [m,if_pos (fun _=>by omega)]
        have r:ix o (k:Int)≠44:=by
         intro z; rw [z] at q; exact absurd q (by decide)
        obtain ⟨u,L,J⟩:=nO (o.take k) (ix o (k:Int))
        obtain ⟨G,M,s3⟩:=nO l (ix o (k:Int))
        rw [a,L,M]
        simp only [bQ,Bool.not_false,cond_true,Option.bind_some,Bool.false_or]
        rw [← uW l _ r] at s3
        by_cases q2:ix o (k:Int)∈o.take k
        ·have:decide (u≥0)=true:=by
          rw [decide_eq_true_eq]
          have:¬ u<0:=fun z=>J.1 z q2
          omega
         rw [this,decide_eq_false (fun z=>z.2.2 q2)]; rfl
        ·have:decide (u≥0)=false:=by
          rw [decide_eq_false_iff_not]
          have:=J.2 q2
          omega
         rw [this]
         simp only [Bool.not_false,cond_true,Option.bind_some,Bool.false_or]
         by_cases q3:∃ g∈fM l,ix o (k:Int)∈g
         ·have:decide (G<0)=false:=by
           rw [decide_eq_false_iff_not]
           exact fun z=>s3.1 z q3
          rw [this,decide_eq_true ⟨q,q3,q2⟩]; rfl
         ·have:decide (G<0)=true:=decide_eq_true (s3.2 q3)
          rw [this,decide_eq_false (fun z=>q3 z.2.1)]; rfl
       ·have m:(decide (bt o (k:Int)<97)||decide (bt o (k:Int)>122))=true:=by
         simp only [Bool.or_eq_true,decide_eq_true_eq,a]; omega
        rw [m,if_pos (fun z=>by cases z),decide_eq_false (fun z=>q z.1)]
        rfl)
      (by simp only [Ze_L3]; rw [if_neg (by simp)])
     rw [F]
     by_cases c4:PO (fM l) o
     ·have D:((List.range o.length).all fun k=>decide ((97≤(ix o (k:Int)).toNat∧(ix o (k:Int)).toNat≤122)∧OL (fM l) o k))=true:=by
       rw [List.all_eq_true]; intro k b
       exact decide_eq_true ⟨c4.2.1.2 _ (bE (List.mem_range.1 b)),c4.2.2.2 k b⟩
      rw [D,if_pos rfl,if_pos c4]; rfl
     ·have D:((List.range o.length).all fun k=>decide ((97≤(ix o (k:Int)).toNat∧(ix o (k:Int)).toNat≤122)∧OL (fM l) o k))=false:=by
       rw [Bool.eq_false_iff]; intro z
       have I:=List.all_eq_true.1 z
       refine c4 ⟨c1,⟨c0,fun c O=>?_⟩,c3,fun i j=>(of_decide_eq_true (I i j)).2⟩
       obtain ⟨i,j,rfl⟩:=List.mem_iff_getElem.1 O
       have:=(of_decide_eq_true (I i (List.mem_range.2 j))).1
       rwa [bS j] at this
      rw [D,if_neg (by simp),if_neg c4]; rfl
    ·have B:((fM l).all fun g=>decide (LT g))=false:=by
      rw [Bool.eq_false_iff]; intro z
      exact c3 fun g e=>of_decide_eq_true (List.all_eq_true.1 z g e)
     rw [B,if_neg (by simp),if_neg (fun z=>c3 z.2.2.1)]; rfl
   ·rw [if_pos (by simp; omega),if_neg (fun z=>c1 z.1)]
  ·rw [if_pos (by simp; omega),if_neg (fun z=>c0 z.2.1.1)]
def pG {S:Type}(st:S→Nat→Option S):Nat→S→Option S
 | 0,s=>some s
 | n+1,s=>(pG st n s).bind fun s'=>st s' n
theorem j5 {S T A B:Type}{f:T→Option (T⊕(A⊕B))}(st:S→Nat→Option S)(mk:S→Int→T)(i:S→B)(e:A→Prop)(a:Nat→S→Prop)(n:Nat)
  (h1:∀ j s,j<n→a j s→(∃ s',st s j=some s'∧f (mk s (j:Int))=some (.inl (mk s' ((j+1:Nat):Int)))∧a (j+1) s')∨(st s j=none∧∃ b,f (mk s (j:Int))=some (.inr (.inl b))∧e b))
  (h2:∀ s,a n s→f (mk s (n:Int))=some (.inr (.inr (i s)))) {s:S} (E:a 0 s) :
  (∃ s',pG st n s=some s'∧aR f (mk s 0)=some (.inr (i s'))∧a n s')∨(pG st n s=none∧∃ b,aR f (mk s 0)=some (.inl b)∧e b):=by
 have D:∀ j,j≤n→(∃ s',pG st j s=some s'∧aR f (mk s 0)=aR f (mk s' (j:Int))∧a j s')∨(pG st j s=none∧∃ b,aR f (mk s 0)=some (.inl b)∧e b):=by
  intro j
  induction j with
  | zero=>intro _; exact .inl ⟨s,rfl,rfl,E⟩
  | succ j ih =>
   intro F
   rcases ih (by omega) with ⟨s',g,h,a3⟩|⟨g,h⟩
   ·rcases h1 j s' (by omega) a3 with ⟨u,m,r,l⟩|⟨m,b,r,l⟩
    ·exact .inl ⟨u,by rw [pG,g]; exact m,by rw [h,dU r],l⟩
    ·exact .inr ⟨by rw [pG,g]; exact m,b,by rw [h,cR r],l⟩
   ·exact .inr ⟨by rw [pG,g]; rfl,h⟩
 rcases D n (Nat.le_refl _) with ⟨s',g,h,a3⟩ | q
 ·exact .inl ⟨s',g,by rw [h,cR (h2 s' a3)],a3⟩
 ·exact .inr q
def lk (lens:List Int)(c:UInt8):Int:=ix lens ((c.toNat:Int) - 97)
def kS (s:aM×List Int)(c:UInt8)(d:Int):Option (aM×List Int) :=
 if lk s.2 c≠0∧lk s.2 c≠d then none else some (if c∈s.1 then s.1 else s.1++[c],s.2.set (c.toNat - 97) d)
def la (g:aM)(ds:List Int)(s:aM×List Int):Option (aM×List Int) :=
 if g.length=ds.length then pG (fun s k=>kS s (ix g (k:Int)) (ix ds (k:Int))) g.length s else none
def mS (gs:List aM)(dss:List (List Int))(s:aM×List Int):Option (aM×List Int):=pG (fun s k=>la (ix gs (k:Int)) (ix dss (k:Int)) s) gs.length s
end Go.Proofs.YtmpnollfdpdipaaGreat
