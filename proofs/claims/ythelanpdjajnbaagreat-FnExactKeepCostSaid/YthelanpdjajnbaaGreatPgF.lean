import GoSem.Core.View
set_option linter.unusedVariables false
namespace Go.Pg
def j6 {S R:Type}(f:S→Option (S⊕R)):Nat→S→Option R
 | 0,_=>none
 | k+1,s=>match f s with
  | some (.inl s')=>j6 f k s'
  | some (.inr r)=>some r
  | none=>none
theorem mh {S R:Type}{f:S→Option (S⊕R)}{k:Nat}{s:S}{r:R}(h:j6 f k s=some r):∀ m,k≤m→j6 f m s=some r:=by
 induction k generalizing s with
 | zero=>cases h
 | succ k ih =>
  intro m a
  obtain ⟨m,rfl⟩:∃ j,m=j+1:=⟨m - 1,by omega⟩
  simp only [j6] at h ⊢
  split at h
  ·rename_i s' e; exact ih h m (by omega)
  ·exact h
  ·cases h
open Classical in
noncomputable def aR {S R:Type}(f:S→Option (S⊕R))(s:S):Option R:=if h:∃ k r,j6 f k s=some r then some (choose (choose_spec h)) else none
theorem mi {S R:Type}{f:S→Option (S⊕R)}{s:S}{k:Nat}{r:R}(h:j6 f k s=some r):aR f s=some r:=by
 have e:∃ k r,j6 f k s=some r:=⟨k,r,h⟩
 unfold aR
 rw [dif_pos e]
 have h2:=Classical.choose_spec (Classical.choose_spec e)
 have a:=mh h2 _ (Nat.le_max_left _ k)
 have b:=mh h _ (Nat.le_max_right (Classical.choose e) k)
 rw [a] at b
 exact b
theorem mj {S R:Type}{f:S→Option (S⊕R)}{s:S}{r:R}(h:aR f s=some r):∃ k,j6 f k s=some r:=by
 unfold aR at h
 split at h
 ·rename_i a
  injection h with h
  subst h
  exact ⟨_,Classical.choose_spec (Classical.choose_spec a)⟩
 ·cases h
theorem eA {S R:Type}{f:S→Option (S⊕R)}{s:S}{r:R}(h:f s=some (.inr r)):aR f s=some r:=mi (k:=1) (by simp [j6,h])
theorem eU {S R:Type}{f:S→Option (S⊕R)}{s s':S}(h:f s=some (.inl s')):aR f s=aR f s':=by
 cases e:aR f s' with
 | some r =>
  obtain ⟨k,a⟩:=mj e
  exact mi (k:=k+1) (by simp [j6,h,a])
 | none =>
  cases e2:aR f s with
  | none=>rfl
  | some r =>
   obtain ⟨k,a⟩:=mj e2
   cases k with
   | zero=>cases a
   | succ k =>
    simp only [j6,h] at a
    rw [mi a] at e
    cases e
abbrev aH (n:Int):Int:=IntKind.wrap .i64 n
theorem wx (n:Int):aH n=(n+9223372036854775808) % 18446744073709551616 - 9223372036854775808:=by
 simp [aH,IntKind.wrap,IntKind.bits,IntKind.signed]
 split<;>omega
theorem aW {n:Int}(a : -9223372036854775808≤n)(h1:n≤9223372036854775807):aH n=n:=by rw [wx]; omega
def ix {α:Type}[Inhabited α](xs:List α)(i:Int):α:=xs.getD i.toNat default
def sub {α:Type}(xs:List α)(l h:Int):List α:=(xs.take h.toNat).drop l.toNat
abbrev aO:=List UInt8
def bt (s:aO)(i:Int):Int:=((ix s i).toNat:Int)
theorem bd {α β:Type}{x:Option α}{f:α→Option β}{r:β}(h:x.bind f=some r):∃ m,x=some m∧f m=some r:=Option.bind_eq_some_iff.1 h
theorem gd {α:Type}{c:Prop}[Decidable c]{x:Option α}{r:α}(h:(if c then x else none)=some r):c∧x=some r:=by
 split at h
 ·exact ⟨‹_›,h⟩
 ·cases h
end Go.Pg
