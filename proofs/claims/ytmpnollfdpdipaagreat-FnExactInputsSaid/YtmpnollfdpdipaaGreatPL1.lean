import Derived.Test.YtmpnollfdpdipaaGreatPgF
set_option linter.unusedVariables false
namespace Go.Pg
def big:Nat:=4611686018427387904
theorem w64k {k:Nat}(h:k<big):w64 ((k:Int)+1)=((k+1:Nat):Int):=by
 unfold big at h; rw [w64_id (by omega) (by omega)]; omega
def goI {S R α:Type}(step:S→Nat→α→S⊕R)(fin:S→R):List α→Nat→S→R
 | [],_,s=>fin s
 | x::xs,k,s=>match step s k x with
  | .inl s'=>goI step fin xs (k+1) s'
  | .inr r=>r
theorem ix_at {α:Type}[Inhabited α]{xs:List α}{k:Nat}(h:k<xs.length):ix xs (k:Int)=xs[k]:=by
 simp [ix,List.getD_eq_getElem?_getD,h]
theorem ix_mem {α:Type}[Inhabited α]{xs:List α}{k:Nat}(h:k<xs.length):ix xs (k:Int)∈xs:=by rw [ix_at h]; exact List.getElem_mem h
theorem loop_goI {S R T α:Type}[Inhabited α](xs:List α)(I:Nat→S→Prop)(f:T→Option (T⊕R))(mk:S→Int→T)(step:S→Nat→α→S⊕R)(fin:S→R)
  (h1:∀ s k,I k s→k<xs.length→f (mk s (k:Int))=some (match step s k (ix xs (k:Int)) with | .inl s'=>.inl (mk s' ((k+1:Nat):Int)) | .inr r=>.inr r))
  (inv:∀ s k s',I k s→k<xs.length→step s k (ix xs (k:Int))=.inl s'→I (k+1) s')
  (h2:∀ s,I xs.length s→f (mk s (xs.length:Int))=some (.inr (fin s))) (s:S) (h0:I 0 s):loopM f (mk s 0)=some (goI step fin xs 0 s):=by
 have key:∀ (m k:Nat) (s:S),k+m=xs.length→I k s→loopM f (mk s (k:Int))=some (goI step fin (xs.drop k) k s):=by
  intro m
  induction m with
  | zero =>
   intro k s hk hI
   have hk:k=xs.length:=by omega
   subst hk
   rw [loopM_end (h2 s hI),List.drop_length]
   rfl
  | succ m ih =>
   intro k s hk hI
   have hlt:k<xs.length:=by omega
   have hf:=h1 s k hI hlt
   rw [List.drop_eq_getElem_cons hlt,← ix_at hlt]
   unfold goI
   cases hs:step s k (ix xs (k:Int)) with
   | inl s' =>
    rw [hs] at hf
    rw [loopM_next hf]
    exact ih (k+1) s' (by omega) (inv s k s' hI hlt hs)
   | inr r =>
    rw [hs] at hf
    rw [loopM_end hf]
 have:=key xs.length 0 s (by omega) h0
 simpa using this
theorem loop_all {R T α:Type}[Inhabited α](xs:List α)(f:T→Option (T⊕R))(mk:Int→T)(p:α→Bool)(ra rb:R)
  (h1:∀ k:Nat,k<xs.length→f (mk (k:Int))=some (if p (ix xs (k:Int)) then .inl (mk ((k+1:Nat):Int)) else .inr ra))
  (h2:f (mk (xs.length:Int))=some (.inr rb)):loopM f (mk 0)=some (if xs.all p then rb else ra):=by
 have:=loop_goI (S:=Unit) xs (fun _ _=>True) f (fun _ i=>mk i) (fun _ _ x=>if p x then .inl () else .inr ra) (fun _=>rb) (fun _ k _ hk=>by
  rw [h1 k hk]; split<;>rfl) (fun _ _ _ _ _ _=>trivial) (fun _ _=>h2) () trivial
 rw [this]
 congr 1
 generalize 0=k
 clear this h1 h2
 induction xs generalizing k with
 | nil=>rfl
 | cons x xs ih =>
  unfold goI
  by_cases hp:p x
  ·simp only [hp,if_true,List.all_cons,Bool.true_and]; exact ih (k+1)
  ·simp [hp]
theorem loop_allI {R T:Type}(n:Nat)(f:T→Option (T⊕R))(mk:Int→T)(p:Nat→Bool)(ra rb:R)
  (h1:∀ k:Nat,k<n→f (mk (k:Int))=some (if p k then .inl (mk ((k+1:Nat):Int)) else .inr ra))
  (h2:f (mk (n:Int))=some (.inr rb)):loopM f (mk 0)=some (if (List.range n).all p then rb else ra):=by
 refine loop_all (List.range n) f mk p ra rb (fun k hk=>?_) (by simpa using h2)
 rw [ix_at hk]
 simp only [List.length_range] at hk
 rw [h1 k hk]; simp
theorem bind_some' {α β:Type}(x:α)(f:α→Option β):(some x).bind f=f x:=rfl
end Go.Pg
