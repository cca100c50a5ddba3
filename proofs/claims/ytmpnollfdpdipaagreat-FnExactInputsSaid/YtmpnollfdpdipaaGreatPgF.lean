import GoSem.Core.View
set_option linter.unusedVariables false
namespace Go.Pg
def iterM {S R:Type}(f:S→Option (S⊕R)):Nat→S→Option R
 | 0,_=>none
 | k+1,s=>match f s with
  | some (.inl s')=>iterM f k s'
  | some (.inr r)=>some r
  | none=>none
theorem iterM_mono {S R:Type}{f:S→Option (S⊕R)}{k:Nat}{s:S}{r:R}(h:iterM f k s=some r):∀ m,k≤m→iterM f m s=some r:=by
 induction k generalizing s with
 | zero=>cases h
 | succ k ih =>
  intro m hm
  obtain ⟨m,rfl⟩:∃ j,m=j+1:=⟨m - 1,by omega⟩
  simp only [iterM] at h ⊢
  split at h
  ·rename_i s' e; exact ih h m (by omega)
  ·exact h
  ·cases h
open Classical in
noncomputable def loopM {S R:Type}(f:S→Option (S⊕R))(s:S):Option R:=if h:∃ k r,iterM f k s=some r then some (choose (choose_spec h)) else none
theorem loopM_of {S R:Type}{f:S→Option (S⊕R)}{s:S}{k:Nat}{r:R}(h:iterM f k s=some r):loopM f s=some r:=by
 have hx:∃ k r,iterM f k s=some r:=⟨k,r,h⟩
 unfold loopM
 rw [dif_pos hx]
 have h2:=Classical.choose_spec (Classical.choose_spec hx)
 have a:=iterM_mono h2 _ (Nat.le_max_left _ k)
 have b:=iterM_mono h _ (Nat.le_max_right (Classical.choose hx) k)
 rw [a] at b
 exact b
theorem loopM_to {S R:Type}{f:S→Option (S⊕R)}{s:S}{r:R}(h:loopM f s=some r):∃ k,iterM f k s=some r:=by
 unfold loopM at h
 split at h
 ·rename_i hx
  injection h with h
  subst h
  exact ⟨_,Classical.choose_spec (Classical.choose_spec hx)⟩
 ·cases h
theorem loopM_end {S R:Type}{f:S→Option (S⊕R)}{s:S}{r:R}(h:f s=some (.inr r)):loopM f s=some r:=loopM_of (k:=1) (by simp [iterM,h])
theorem loopM_next {S R:Type}{f:S→Option (S⊕R)}{s s':S}(h:f s=some (.inl s')):loopM f s=loopM f s':=by
 cases e:loopM f s' with
 | some r =>
  obtain ⟨k,hk⟩:=loopM_to e
  exact loopM_of (k:=k+1) (by simp [iterM,h,hk])
 | none =>
  cases e2:loopM f s with
  | none=>rfl
  | some r =>
   obtain ⟨k,hk⟩:=loopM_to e2
   cases k with
   | zero=>cases hk
   | succ k =>
    simp only [iterM,h] at hk
    rw [loopM_of hk] at e
    cases e
abbrev w64 (n:Int):Int:=IntKind.wrap .i64 n
theorem w64_eq (n:Int):w64 n=(n+9223372036854775808) % 18446744073709551616 - 9223372036854775808:=by
 simp [w64,IntKind.wrap,IntKind.bits,IntKind.signed]
 split<;>omega
theorem w64_id {n:Int}(h0 : -9223372036854775808≤n)(h1:n≤9223372036854775807):w64 n=n:=by rw [w64_eq]; omega
def ix {α:Type}[Inhabited α](xs:List α)(i:Int):α:=xs.getD i.toNat default
def sub {α:Type}(xs:List α)(l h:Int):List α:=(xs.take h.toNat).drop l.toNat
abbrev Str:=List UInt8
def bt (s:Str)(i:Int):Int:=((ix s i).toNat:Int)
theorem bd {α β:Type}{x:Option α}{f:α→Option β}{r:β}(h:x.bind f=some r):∃ m,x=some m∧f m=some r:=Option.bind_eq_some_iff.1 h
theorem gd {α:Type}{c:Prop}[Decidable c]{x:Option α}{r:α}(h:(if c then x else none)=some r):c∧x=some r:=by
 split at h
 ·exact ⟨‹_›,h⟩
 ·cases h
end Go.Pg
