import GoSem.Core.View
set_option linter.unusedVariables false
namespace Go.Pg
def iW {S R:Type}(f:S→Option (S⊕R)):Nat→S→Option R
 | 0,_=>none
 | k+1,s=>match f s with
  | some (.inl s')=>iW f k s'
  | some (.inr r)=>some r
  | none=>none
theorem m5 {S R:Type}{f:S→Option (S⊕R)}{k:Nat}{s:S}{r:R}(h:iW f k s=some r):∀ m,k≤m→iW f m s=some r:=by
 induction k generalizing s with
 | zero=>cases h
 | succ k ih =>
  intro m a
  obtain ⟨m,rfl⟩:∃ j,m=j+1:=⟨m - 1,by omega⟩
  simp only [iW] at h ⊢
  split at h
  ·rename_i s' e; exact ih h m (by omega)
  ·exact h
  ·cases h
open Classical in
noncomputable def aR {S R:Type}(f:S→Option (S⊕R))(s:S):Option R:=if h:∃ k r,iW f k s=some r then some (choose (choose_spec h)) else none
theorem m6 {S R:Type}{f:S→Option (S⊕R)}{s:S}{k:Nat}{r:R}(h:iW f k s=some r):aR f s=some r:=by
 have e:∃ k r,iW f k s=some r:=⟨k,r,h⟩
 unfold aR
 rw [dif_pos e]
 have h2:=Classical.choose_spec (Classical.choose_spec e)
 have a:=m5 h2 _ (Nat.le_max_left _ k)
 have b:=m5 h _ (Nat.le_max_right (Classical.choose e) k)
 rw [a] at b
 exact b
theorem m7 {S R:Type}{f:S→Option (S⊕R)}{s:S}{r:R}(h:aR f s=some r):∃ k,iW f k s=some r:=by
 unfold aR at h
 split at h
 ·rename_i a
  injection h with h
  subst h
  exact ⟨_,Classical.choose_spec (Classical.choose_spec a)⟩
 ·cases h
theorem cR {S R:Type}{f:S→Option (S⊕R)}{s:S}{r:R}(h:f s=some (.inr r)):aR f s=some r:=m6 (k:=1) (by simp [iW,h])
theorem dU {S R:Type}{f:S→Option (S⊕R)}{s s':S}(h:f s=some (.inl s')):aR f s=aR f s':=by
 cases e:aR f s' with
 | some r =>
  obtain ⟨k,a⟩:=m7 e
  exact m6 (k:=k+1) (by simp [iW,h,a])
 | none =>
  cases e2:aR f s with
  | none=>rfl
  | some r =>
   obtain ⟨k,a⟩:=m7 e2
   cases k with
   | zero=>cases a
   | succ k =>
    simp only [iW,h] at a
    rw [m6 a] at e
    cases e
abbrev aH (n:Int):Int:=IntKind.wrap .i64 n
theorem w0 (n:Int):aH n=(n+9223372036854775808) % 18446744073709551616 - 9223372036854775808:=by
 simp [aH,IntKind.wrap,IntKind.bits,IntKind.signed]
 split<;>omega
theorem bC {n:Int}(a : -9223372036854775808≤n)(h1:n≤9223372036854775807):aH n=n:=by rw [w0]; omega
def ix {α:Type}[Inhabited α](xs:List α)(i:Int):α:=xs.getD i.toNat default
def sub {α:Type}(xs:List α)(l h:Int):List α:=(xs.take h.toNat).drop l.toNat
abbrev aM:=List UInt8
def bt (s:aM)(i:Int):Int:=((ix s i).toNat:Int)
theorem bd {α β:Type}{x:Option α}{f:α→Option β}{r:β}(h:x.bind f=some r):∃ m,x=some m∧f m=some r:=Option.bind_eq_some_iff.1 h
theorem gd {α:Type}{c:Prop}[Decidable c]{x:Option α}{r:α}(h:(if c then x else none)=some r):c∧x=some r:=by
 split at h
 ·exact ⟨‹_›,h⟩
 ·cases h
end Go.Pg
