import Derived.Test.YtmpnollfdpdipaaGreatDoorPgF
set_option linter.unusedVariables false
namespace Go.Pg
def cC:Nat:=4611686018427387904
theorem bT {k:Nat}(h:k<cC):aK ((k:Int)+1)=((k+1:Nat):Int):=by
 unfold cC at h; rw [bH (by omega) (by omega)]; omega
def lE {S R α:Type}(a:S→Nat→α→S⊕R)(e:S→R):List α→Nat→S→R
 | [],_,s=>e s
 | x::xs,k,s=>match a s k x with
  | .inl s'=>lE a e xs (k+1) s'
  | .inr r=>r
theorem bC {α:Type}[Inhabited α]{xs:List α}{k:Nat}(h:k<xs.length):ix xs (k:Int)=xs[k]:=by
 simp [ix,List.getD_eq_getElem?_getD,h]
theorem aN {α:Type}[Inhabited α]{xs:List α}{k:Nat}(h:k<xs.length):ix xs (k:Int)∈xs:=by rw [bC h]; exact List.getElem_mem h
theorem fJ {S R T α:Type}[Inhabited α](xs:List α)(I:Nat→S→Prop)(f:T→Option (T⊕R))(mk:S→Int→T)(a:S→Nat→α→S⊕R)(g:S→R)
  (h1:∀ s k,I k s→k<xs.length→f (mk s (k:Int))=some (match a s k (ix xs (k:Int)) with | .inl s'=>.inl (mk s' ((k+1:Nat):Int)) | .inr r=>.inr r))
  (q:∀ s k s',I k s→k<xs.length→a s k (ix xs (k:Int))=.inl s'→I (k+1) s')
  (h2:∀ s,I xs.length s→f (mk s (xs.length:Int))=some (.inr (g s))) (s:S) (B:I 0 s):aI f (mk s 0)=some (lE a g xs 0 s):=by
 have u:∀ (m k:Nat) (s:S),k+m=xs.length→I k s→aI f (mk s (k:Int))=some (lE a g (xs.drop k) k s):=by
  intro m
  induction m with
  | zero =>
   intro k s j h
   have j:k=xs.length:=by omega
   subst j
   rw [cH (h2 s h),List.drop_length]
   rfl
  | succ m ih =>
   intro k s j h
   have e:k<xs.length:=by omega
   have i:=h1 s k h e
   rw [List.drop_eq_getElem_cons e,← bC e]
   unfold lE
   cases hs:a s k (ix xs (k:Int)) with
   | inl s' =>
    rw [hs] at i
    rw [cZ i]
    exact ih (k+1) s' (by omega) (q s k s' h e hs)
   | inr r =>
    rw [hs] at i
    rw [cH i]
 have:=u xs.length 0 s (by omega) B
 simpa using this
theorem dC {R T α:Type}[Inhabited α](xs:List α)(f:T→Option (T⊕R))(mk:Int→T)(p:α→Bool)(a e:R)
  (h1:∀ k:Nat,k<xs.length→f (mk (k:Int))=some (if p (ix xs (k:Int)) then .inl (mk ((k+1:Nat):Int)) else .inr a))
  (h2:f (mk (xs.length:Int))=some (.inr e)):aI f (mk 0)=some (if xs.all p then e else a):=by
 have:=fJ (S:=Unit) xs (fun _ _=>True) f (fun _ i=>mk i) (fun _ _ x=>if p x then .inl () else .inr a) (fun _=>e) (fun _ k _ g=>by
  rw [h1 k g]; split<;>rfl) (fun _ _ _ _ _ _=>trivial) (fun _ _=>h2) () trivial
 rw [this]
 congr 1
 generalize 0=k
 clear this h1 h2
 induction xs generalizing k with
 | nil=>rfl
 | cons x xs ih =>
  unfold lE
  by_cases hp:p x
  ·simp only [hp,if_true,List.all_cons,Bool.true_and]; exact ih (k+1)
  ·simp [hp]
theorem hD {R T:Type}(n:Nat)(f:T→Option (T⊕R))(mk:Int→T)(p:Nat→Bool)(e g:R)
  (h1:∀ k:Nat,k<n→f (mk (k:Int))=some (if p k then .inl (mk ((k+1:Nat):Int)) else .inr e))
  (h2:f (mk (n:Int))=some (.inr g)):aI f (mk 0)=some (if (List.range n).all p then g else e):=by
 refine dC (List.range n) f mk p e g (fun k a=>?_) (by simpa using h2)
 rw [bC a]
 simp only [List.length_range] at a
 rw [h1 k a]; simp
theorem aM {α β:Type}(x:α)(f:α→Option β):(some x).bind f=f x:=rfl
end Go.Pg
