import Derived.Test.YtmpnollfdpdipaaGreatGkF
import Derived.Test.YtmpnollfdpdipaaGreatPL1
set_option linter.unusedVariables false
set_option linter.unusedSimpArgs false
namespace Go.Proofs.YtmpnollfdpdipaaGreat
open Go Go.Pg
theorem iK {a b:Int}(e:0≤a)(g:1≤b):a≤a*b:=by
 have:=Int.mul_le_mul_of_nonneg_left g e
 simpa using this
theorem jl {a b:Int}(e:1≤a)(g:0≤b):b≤a*b:=by rw [Int.mul_comm]; exact iK g e
def pr:List Int→Int
 | []=>1
 | d::ds=>d*pr ds
def SZ (ds:List Int):Prop:=(∀ d∈ds,1≤d)∧pr ds≤4096
instance (ds:List Int):Decidable (SZ ds):=by unfold SZ; infer_instance
def dZ (ds:List Int):Prop:=ds.length≤6∧SZ ds
instance (ds:List Int):Decidable (dZ ds):=by unfold dZ; infer_instance
theorem fE {ds:List Int}(h:∀ d∈ds,1≤d):1≤pr ds:=by
 induction ds with
 | nil=>exact Int.le_refl 1
 | cons d ds ih =>
  have h1:=h d (by simp)
  have h2:=ih fun x a=>h x (by simp [a])
  exact Int.le_trans h1 (iK (by omega) h2)
theorem mA (a b:List Int):pr (a++b)=pr a*pr b:=by
 induction a with
 | nil=>simp [pr]
 | cons x a ih=>simp [pr,ih,Int.mul_assoc]
theorem gE (ds:List Int)(k:Nat):pr ds=pr (ds.take k)*pr (ds.drop k):=by
 rw [← mA,List.take_append_drop]
theorem SZ.take {ds:List Int}(h:SZ ds)(k:Nat):SZ (ds.take k):=by
 refine ⟨fun d a=>h.1 d (List.mem_of_mem_take a),?_⟩
 have h1:=h.2
 rw [gE ds k] at h1
 have h2:1≤pr (ds.drop k):=fE fun d a=>h.1 d (List.mem_of_mem_drop a)
 have b:1≤pr (ds.take k):=fE fun d a=>h.1 d (List.mem_of_mem_take a)
 exact Int.le_trans (iK (by omega) h2) h1
theorem SZ.drop {ds:List Int}(h:SZ ds)(k:Nat):SZ (ds.drop k):=by
 refine ⟨fun d a=>h.1 d (List.mem_of_mem_drop a),?_⟩
 have h1:=h.2
 rw [gE ds k] at h1
 have h2:1≤pr (ds.drop k):=fE fun d a=>h.1 d (List.mem_of_mem_drop a)
 have b:1≤pr (ds.take k):=fE fun d a=>h.1 d (List.mem_of_mem_take a)
 exact Int.le_trans (jl b (by omega)) h1
theorem SZ.tail {d:Int}{ds:List Int}(h:SZ (d::ds)):SZ ds:=h.drop 1
theorem SZ.pos {ds:List Int}(h:SZ ds):1≤pr ds:=fE h.1
theorem SZ.mem {ds:List Int}(h:SZ ds){d:Int}(e:d∈ds):1≤d∧d≤4096:=by
 refine ⟨h.1 d e,?_⟩
 obtain ⟨a,b,rfl⟩:=List.append_of_mem e
 have h2:=h.2
 rw [mA] at h2
 have l:1≤pr a:=fE fun x g=>h.1 x (by simp [g])
 have m:1≤pr b:=fE fun x g=>h.1 x (by simp [g])
 have i:=h.1 d e
 have j:d≤pr (d::b):=iK (by omega) m
 exact Int.le_trans (Int.le_trans j (jl l (by omega))) h2
theorem sB {R:Type}(h:R)(i:Int→R)(ds:List Int)(k:Nat)(n:Int)(q:1≤n)(h1:n≤4096) :
  qc (fun (s:Int) (_:Nat) (x:Int)=>if (decide (x<1)||decide (x>4096))=true then .inr h else if decide (s*x>4096)=true then .inr h else .inl (s*x)) i ds k n
   = if (∀ d∈ds,1≤d)∧n*pr ds≤4096 then i (n*pr ds) else h:=by
 induction ds generalizing n k with
 | nil=>simp [qc,pr,h1]
 | cons d ds ih =>
  unfold qc
  by_cases c1:d<1
  ·have l:¬ ((∀ x∈d::ds,1≤x)∧n*pr (d::ds)≤4096):=fun ⟨a,_⟩=>by have:=a d (by simp); omega
   rw [if_neg l]
   simp [c1]
  ·have bZ:d>4096∨n*d>4096→¬ ((∀ x∈d::ds,1≤x)∧n*pr (d::ds)≤4096):=by
    rintro j ⟨a,b⟩
    have r:1≤pr ds:=fE fun x m=>a x (by simp [m])
    have e:n*pr (d::ds)=n*d*pr ds:=by simp [pr,Int.mul_assoc]
    rw [e] at b
    have h2:d≤n*d:=jl q (by omega)
    have B:n*d≤n*d*pr ds:=iK (by omega) r
    rcases j with j | j<;>omega
   by_cases c2:d>4096
   ·rw [if_neg (bZ (.inl c2))]; simp [c2]
   ·by_cases c3:n*d>4096
    ·rw [if_neg (bZ (.inr c3))]; simp [c1,c2,c3]
    ·have u:d≤n*d:=jl q (by omega)
     simp only [c1,c2,c3,decide_false,Bool.or_self,Bool.false_eq_true,if_false]
     rw [ih (k+1) (n*d) (by omega) (by omega)]
     have e:n*pr (d::ds)=n*d*pr ds:=by simp [pr,Int.mul_assoc]
     by_cases g:(∀ x∈ds,1≤x)∧n*d*pr ds≤4096
     ·rw [if_pos g,if_pos ⟨List.forall_mem_cons.2 ⟨by omega,g.1⟩,by rw [e]; exact g.2⟩,e]
     ·rw [if_neg g,if_neg fun a=>g ⟨fun x m=>a.1 x (by simp [m]),by rw [← e]; exact a.2⟩]
theorem ur {R:Type}(a:Int→R)(ds:List Int)(k:Nat)(n:Int):qc (fun (s:Int) (_:Nat) (x:Int)=>.inl (s*x)) a ds k n=a (n*pr ds):=by
 induction ds generalizing n k with
 | nil=>simp [qc,pr]
 | cons d ds ih =>
  unfold qc
  simp only
  rw [ih]
  simp [pr,Int.mul_assoc]
theorem iy {a b:Int}(g:0≤a)(h1:a≤65536)(h2:0≤b)(e:b≤65536):aH (a*b)=a*b:=by
 have h:a*b≤65536*65536:=Int.mul_le_mul h1 e h2 (by omega)
 have i:0≤a*b:=Int.mul_nonneg g h2
 exact bA (by omega) (by omega)
theorem jp {ds:List Int}(q:ds.length<bZ):Zs ds=some (if SZ ds then pr ds else 0):=by
 have:=j4 (S:=Int) ds (fun _ n=>1≤n∧n≤4096) (fun s:Int×Int=>Zs_L1 ds s.1 s.2) (fun n i=>(n,i)) (fun (s:Int) (_:Nat) (x:Int)=>if (decide (x<1)||decide (x>4096))=true then .inr (.inl (0:Int)) else if decide (s*x>4096)=true then .inr (.inl 0) else .inl (s*x)) (fun n=>.inr n)
  (fun n k l m=>by
   simp only [Zs_L1]
   rw [if_pos (by simp; omega),if_pos (by omega)]
   split
   ·rfl
   ·rename_i h
    simp only [Bool.or_eq_true,decide_eq_true_eq,not_or] at h
    rw [iy (by omega) (by omega) (by omega) (by omega),bX (by omega)]
    split<;>rfl)
  (fun n k s l m j=>by
   split at j
   ·cases j
   ·rename_i h
    simp only [Bool.or_eq_true,decide_eq_true_eq,not_or] at h
    split at j
    ·cases j
    ·rename_i h2
     simp only [decide_eq_true_eq] at h2
     cases j
     have:=jl (a:=n) (b:=ix ds (k:Int)) l.1 (by omega)
     omega)
  (fun n _=>by simp only [Zs_L1]; rw [if_neg (by simp)]) 1 ⟨by omega,by omega⟩
 unfold Zs
 rw [this,sB _ _ _ _ _ (by omega) (by omega)]
 simp only [Int.one_mul,Option.bind_some]
 have e:SZ ds↔(∀ d∈ds,1≤d)∧pr ds≤4096:=Iff.rfl
 by_cases h:SZ ds
 ·rw [if_pos (e.1 h),if_pos h]; rfl
 ·rw [if_neg (fun g=>h (e.2 g)),if_neg h]
theorem fX {ds:List Int}(a:ds.length<bZ):Zm ds=some (decide (dZ ds)):=by
 unfold Zm
 by_cases h:ds.length≤6
 ·have e:decide ((ds.length:Int)≤6)=true:=by simp; omega
  rw [e]
  simp only [bP,jp a,cond_true,Option.bind_some,Bool.true_and]
  congr 1
  by_cases g:SZ ds
  ·have:=g.pos; simp [g,dZ,h]; omega
  ·simp [g,dZ]
 ·have e:decide ((ds.length:Int)≤6)=false:=by simp; omega
  rw [e]
  simp [bP,dZ,h]
theorem gS {ds:List Int}(q:ds.length<bZ):Zb ds=some (decide (dZ ds)):=by
 have:=j4 (S:=Int) ds (fun _ n=>1≤n∧n≤4096) (fun s:Int×Int=>Zb_L1 ds s.1 s.2) (fun n i=>(n,i)) (fun (s:Int) (_:Nat) (x:Int)=>if (decide (x<1)||decide (x>4096))=true then .inr (.inl false) else if decide (s*x>4096)=true then .inr (.inl false) else .inl (s*x)) (fun n=>.inr ())
  (fun n k l m=>by
   simp only [Zb_L1]
   rw [if_pos (by simp; omega),if_pos (by omega)]
   split
   ·rfl
   ·rename_i h
    simp only [Bool.or_eq_true,decide_eq_true_eq,not_or] at h
    rw [iy (by omega) (by omega) (by omega) (by omega),bX (by omega)]
    split<;>rfl)
  (fun n k s l m j=>by
   split at j
   ·cases j
   ·rename_i h
    simp only [Bool.or_eq_true,decide_eq_true_eq,not_or] at h
    split at j
    ·cases j
    ·rename_i h2
     simp only [decide_eq_true_eq] at h2
     cases j
     have:=jl (a:=n) (b:=ix ds (k:Int)) l.1 (by omega)
     omega)
  (fun n _=>by simp only [Zb_L1]; rw [if_neg (by simp)]) 1 ⟨by omega,by omega⟩
 unfold Zb
 rw [this,sB _ _ _ _ _ (by omega) (by omega)]
 simp only [Int.one_mul,Option.bind_some]
 have e:SZ ds↔(∀ d∈ds,1≤d)∧pr ds≤4096:=Iff.rfl
 by_cases h:SZ ds
 ·rw [if_pos (e.1 h)]
  simp only [Zb_J1]
  congr 1
  simp [dZ,h]; omega
 ·rw [if_neg (fun g=>h (e.2 g))]
  simp [dZ,h]
theorem l5 {ds:List Int}(j:ds.length<bZ)(h:SZ ds):Zl ds=some (pr ds):=by
 have:=j4 (S:=Int) ds (fun k n=>n=pr (ds.take k)) (fun s:Int×Int=>Zl_L1 ds s.1 s.2) (fun n i=>(n,i)) (fun (s:Int) (_:Nat) (x:Int)=>.inl (s*x)) (fun n=>n)
  (fun n k b a=>by
   simp only [Zl_L1]
   have h1:=(h.take k)
   have h2:=h1.pos
   have g:=h.mem (bF a)
   rw [if_pos (by simp; omega),if_pos (by omega),iy (by omega) (by have:=h1.2; omega) (by omega) (by omega),bX (by omega)])
  (fun n k s b a e=>by
   simp only [Sum.inl.injEq] at e
   rw [← e,b,List.take_succ_eq_append_getElem a,mA,bU a]
   simp [pr])
  (fun n _=>by simp only [Zl_L1]; rw [if_neg (by simp)]) 1 rfl
 unfold Zl
 rw [this,ur]
 simp [Zl_J1]
def gT:List Int→Int→List Int
 | [],_=>[]
 | d::ds,k=>(k / pr ds) % d::gT ds k
def lV:List Int→List Int→Int
 | d::ds,i::is=>i*pr ds+lV ds is
 | _,_=>0
def IV:List Int→List Int→Prop
 | [],[]=>True
 | d::ds,i::is=>(0≤i∧i<d)∧IV ds is
 | _,_=>False
theorem jq (ds:List Int)(k:Int):(gT ds k).length=ds.length:=by
 induction ds with
 | nil=>rfl
 | cons d ds ih=>simp [gT,ih]
theorem IV.len {ds is:List Int}(h:IV ds is):is.length=ds.length:=by
 induction ds generalizing is with
 | nil=>cases is with
  | nil=>rfl
  | cons=>exact h.elim
 | cons d ds ih=>cases is with
  | nil=>exact h.elim
  | cons i is=>simp [ih h.2]
theorem gU {ds:List Int}(h:∀ d∈ds,1≤d)(k:Int):IV ds (gT ds k):=by
 induction ds with
 | nil=>trivial
 | cons d ds ih =>
  have b:=h d (by simp)
  exact ⟨⟨Int.emod_nonneg _ (by omega),Int.emod_lt_of_pos _ (by omega)⟩,ih fun x a=>h x (by simp [a])⟩
theorem mB {ds is:List Int}(h:∀ d∈ds,1≤d)(e:IV ds is):0≤lV ds is∧lV ds is<pr ds:=by
 induction ds generalizing is with
 | nil=>cases is with
  | nil=>exact ⟨Int.le_refl 0,by decide⟩
  | cons=>exact e.elim
 | cons d ds ih=>cases is with
  | nil=>exact e.elim
  | cons i is =>
   obtain ⟨a,b⟩:=ih (fun x g=>h x (by simp [g])) e.2
   have j:1≤pr ds:=fE fun x g=>h x (by simp [g])
   have l:=Int.mul_nonneg e.1.1 (show 0≤pr ds by omega)
   have h1:(i+1)*pr ds≤d*pr ds:=Int.mul_le_mul_of_nonneg_right (by have:=e.1.2; omega) (by omega)
   rw [Int.add_mul] at h1
   show 0≤i*pr ds+lV ds is∧i*pr ds+lV ds is<d*pr ds
   omega
theorem sC {k p d:Int}(r:1≤p)(j:1≤d):k / (d*p)=k / p / d∧k % (d*p)=k / p % d*p+k % p:=by
 have a:=Int.emod_nonneg k (show p≠0 by omega)
 have b:=Int.emod_lt_of_pos k (show 0<p by omega)
 have c:=Int.emod_nonneg (k / p) (show d≠0 by omega)
 have e:=Int.emod_lt_of_pos (k / p) (show 0<d by omega)
 have h1:=Int.mul_nonneg c (show 0≤p by omega)
 have h2:(k / p % d+1)*p≤d*p:=Int.mul_le_mul_of_nonneg_right (by omega) (by omega)
 rw [Int.add_mul] at h2
 have h:0<d*p:=Int.mul_pos (by omega) (by omega)
 refine (Int.ediv_emod_unique (q:=k / p / d) h).2 ⟨?_,by omega,by omega⟩
 have m:=Int.mul_ediv_add_emod k p
 have i:=Int.mul_ediv_add_emod (k / p) d
 have g:d*p*(k / p / d)=p*(d*(k / p / d)):=by rw [Int.mul_comm d p,Int.mul_assoc]
 have l:p*(k / p)=p*(d*(k / p / d))+p*(k / p % d):=by rw [← Int.mul_add,i]
 rw [g,Int.mul_comm (k / p % d) p]
 omega
theorem us {ds:List Int}(h:∀ d∈ds,1≤d)(k:Int):lV ds (gT ds k)=k % pr ds:=by
 induction ds generalizing k with
 | nil=>simp [lV,pr,Int.emod_one]
 | cons d ds ih =>
  have b:1≤pr ds:=fE fun x a=>h x (by simp [a])
  have e:=h d (by simp)
  show k / pr ds % d*pr ds+lV ds (gT ds k)=k % (d*pr ds)
  rw [ih fun x a=>h x (by simp [a])]
  exact (sC b e).2.symm
theorem qU {ds:List Int}(h:∀ d∈ds,1≤d){k:Int}(a:0≤k)(h1:k<pr ds):lV ds (gT ds k)=k:=by
 rw [us h,Int.emod_eq_of_lt a h1]
theorem eT {S R:Type}{f:S→Option (S⊕R)}(st:Nat→S)(n:Nat){r:R}(g:∀ j,j<n→f (st j)=some (.inl (st (j+1))))(h:f (st n)=some (.inr r)){s:S}(e:s=st 0):aR f s=some r:=by
 have a:∀ m j,j+m=n→aR f (st j)=some r:=by
  intro m
  induction m with
  | zero=>intro j b; rw [show j=n by omega]; exact cX h
  | succ m ih=>intro j b; rw [eC (g j (by omega))]; exact ih (j+1) (by omega)
 rw [e]
 exact a n 0 (by omega)
theorem hW {S R:Type}{f:S→Option (S⊕R)}(I:Nat→S→Prop)(n:Nat){Post:R→Prop}(h:∀ j s,j<n→I j s→∃ s',f s=some (.inl s')∧I (j+1) s')(i:∀ s,I n s→∃ r,f s=some (.inr r)∧Post r){s:S}(g:I 0 s):∃ r,aR f s=some r∧Post r:=by
 have b:∀ m j s,j+m=n→I j s→∃ r,aR f s=some r∧Post r:=by
  intro m
  induction m with
  | zero =>
   intro j s e a
   rw [show j=n by omega] at a
   obtain ⟨r,h1,h2⟩:=i s a
   exact ⟨r,cX h1,h2⟩
  | succ m ih =>
   intro j s e a
   obtain ⟨s',h1,h2⟩:=h j s (by omega) a
   rw [eC h1]
   exact ih (j+1) s' (by omega) h2
 exact b n 0 s (by omega) g
structure TOk (dims data:List Int):Prop where
 d:dZ dims
 l:(data.length:Int)=pr dims
 x:∀ x∈data,0≤x∧x<2147483647
instance (dims data:List Int):Decidable (TOk dims data):=decidable_of_iff (dZ dims∧(data.length:Int)=pr dims∧∀ x∈data,0≤x∧x<2147483647) ⟨fun h=>⟨h.1,h.2.1,h.2.2⟩,fun h=>⟨h.d,h.l,h.x⟩⟩
theorem oB (xs:List Int):(xs.all fun x=>!(decide (x<0)||decide (x≥2147483647)))=decide (∀ x∈xs,0≤x∧x<2147483647):=by
 rw [Bool.eq_iff_iff]
 simp only [List.all_eq_true,decide_eq_true_eq,Bool.not_eq_true',Bool.or_eq_false_iff,decide_eq_false_iff_not]
 exact ⟨fun h x a=>by have:=h x a; omega,fun h x a=>by have:=h x a; omega⟩
theorem sD {t:Tensor}(a:t.Dims.length<bZ)(j:t.Data.length<bZ):Zo t=some (decide (TOk t.Dims t.Data)):=by
 unfold Zo
 rw [fX a]
 by_cases h:dZ t.Dims
 ·simp only [h,decide_true,Option.bind_some,bP,Bool.not_true,Bool.not_false,cond_true,Bool.false_or,jp a,h.2,if_true]
  by_cases e:(t.Data.length:Int)=pr t.Dims
  ·rw [if_neg (by simp [e])]
   have:=eM t.Data (fun s:Int=>Zo_L1 t s) (fun i=>i) (fun x=>!(decide (x<0)||decide (x≥2147483647))) (.inl false) (.inr ())
    (fun k b=>by
     simp only [Zo_L1]
     rw [if_pos (by simp; omega),if_pos (by omega),bX (by omega)]
     cases (decide (ix t.Data (k:Int)<0)||decide (ix t.Data (k:Int)≥2147483647))<;>rfl)
    (by simp only [Zo_L1]; rw [if_neg (by simp)])
   rw [this,oB]
   by_cases g:∀ x∈t.Data,0≤x∧x<2147483647
   ·have:TOk t.Dims t.Data:=⟨h,e,g⟩
    simp only [decide_eq_true g,decide_eq_true this,if_true,Option.bind_some,Zo_J1]
   ·have:¬ TOk t.Dims t.Data:=fun q=>g q.x
    simp only [decide_eq_false g,decide_eq_false this,Bool.false_eq_true,if_false,Option.bind_some]
  ·rw [if_pos (by simp [e])]
   have:¬ TOk t.Dims t.Data:=fun q=>e q.l
   simp [this]
 ·have:¬ TOk t.Dims t.Data:=fun q=>h q.d
  simp [h,this,bP]
theorem wL {t:Tensor}(a:t.Dims.length<bZ)(m:t.Data.length<bZ):Z2l t=some (decide (TOk t.Dims t.Data)):=by
 unfold Z2l
 rw [gS a]
 by_cases h:dZ t.Dims
 ·simp only [h,decide_true,Option.bind_some,bP,cond_true,Bool.true_and,l5 a h.2]
  by_cases e:(t.Data.length:Int)=pr t.Dims
  ·have:=eM t.Data (fun s:Int=>Z14_L1 t.Data s) (fun i=>i) (fun x=>!(decide (x<0)||decide (x≥2147483647))) (.inl false) (.inr ())
    (fun k j=>by
     simp only [Z14_L1,Z32,Option.bind_some]
     rw [if_pos (by simp; omega),if_pos (by omega),bX (by omega)]
     by_cases c1:ix t.Data (k:Int)<0
     ·have:¬ ix t.Data (k:Int)≥0:=by omega
      simp [c1,this]
     ·have h1:ix t.Data (k:Int)≥0:=by omega
      by_cases c2:ix t.Data (k:Int)<2147483647
      ·have h2:¬ ix t.Data (k:Int)≥2147483647:=by omega
       simp [c1,h1,c2,h2]
      ·have h2:ix t.Data (k:Int)≥2147483647:=by omega
       simp [c1,h1,c2,h2])
    (by simp only [Z14_L1]; rw [if_neg (by simp)])
   simp only [e,beq_self_eq_true,cond_true,Z14,this,oB]
   by_cases g:∀ x∈t.Data,0≤x∧x<2147483647
   ·have:TOk t.Dims t.Data:=⟨h,e,g⟩
    simp only [decide_eq_true g,decide_eq_true this,if_true,Option.bind_some,Z14_J1,Bool.and_self]
   ·have:¬ TOk t.Dims t.Data:=fun q=>g q.x
    simp only [decide_eq_false g,decide_eq_false this,Bool.false_eq_true,if_false,Option.bind_some,Bool.and_false]
  ·have:¬ TOk t.Dims t.Data:=fun q=>e q.l
   have b:((t.Data.length:Int)==pr t.Dims)=false:=by simp [e]
   simp [this,b]
 ·have:¬ TOk t.Dims t.Data:=fun q=>h q.d
  simp [h,this,bP]
theorem hN {xs:List Int}(h:xs.length≤17592186044416):Zq xs=some xs:=by
 unfold Zq
 rw [if_pos (by simpa using h)]
 simp
theorem gF {xs:List Int}(h:xs.length≤17592186044416):Zg xs=some xs:=by
 unfold Zg; rw [if_pos h]
theorem qd (a b:List Int)(h:a.length=b.length):(List.range a.length).all (fun k=>!(ix a (k:Int) != ix b (k:Int)))=decide (a=b):=by
 rw [Bool.eq_iff_iff]
 simp only [List.all_eq_true,List.mem_range,decide_eq_true_eq,bne,Bool.not_not,beq_iff_eq]
 constructor
 ·intro q
  apply List.ext_getElem h
  intro i h1 h2
  have:=q i h1
  rwa [bU h1,bU h2] at this
 ·rintro rfl k _; rfl
theorem sE {a b:List Int}(j:a.length<bZ):Zy a b=some (decide (a=b)):=by
 unfold Zy
 by_cases h:a.length=b.length
 ·rw [if_neg (by simp [h])]
  have:=j5 a.length (fun s:Int=>Zy_L1 a b s) (fun i=>i) (fun k=>!(ix a (k:Int) != ix b (k:Int))) (.inl false) (.inr ())
   (fun k g=>by
    simp only [Zy_L1]
    rw [if_pos (by simp; omega),if_pos (by omega),if_pos (by omega),bX (by omega)]
    cases (ix a (k:Int) != ix b (k:Int))<;>rfl)
   (by simp only [Zy_L1]; rw [if_neg (by simp)])
  rw [this,qd a b h]
  by_cases e:a=b<;>simp [e,Zy_J1]
 ·rw [if_pos (by simp; omega)]
  have:a≠b:=fun e=>h (by rw [e])
  simp [this]
theorem ut {a b:List Int}(j:a.length<bZ):Z11 a b=some (decide (a=b)):=by
 unfold Z11
 by_cases h:a.length=b.length
 ·rw [if_neg (by simp [h])]
  have:=j5 a.length (fun s:Int=>Z11_L1 a b s) (fun i=>i) (fun k=>!(ix a (k:Int) != ix b (k:Int))) (.inl false) (.inr ())
   (fun k g=>by
    simp only [Z11_L1]
    rw [if_pos (by simp; omega),if_pos (by omega),if_pos (by omega),bX (by omega)]
    cases (ix a (k:Int) != ix b (k:Int))<;>rfl)
   (by simp only [Z11_L1]; rw [if_neg (by simp)])
  rw [this,qd a b h]
  by_cases e:a=b<;>simp [e,Z11_J1]
 ·rw [if_pos (by simp; omega)]
  have:a≠b:=fun e=>h (by rw [e])
  simp [this]
theorem kI {ds:List Int}(h:dZ ds):Z0e ds=some ⟨ds,List.replicate (pr ds).toNat 0⟩:=by
 have h1:=h.1
 have h2:=h.2.pos
 have a:=h.2.2
 unfold Z0e
 rw [hN (by omega)]
 simp only [Option.bind_some,jp (ds:=ds) (by unfold bZ; omega),h.2,if_true]
 rw [if_pos (by omega)]
theorem jr {ds:List Int}{k:Int}(h:dZ ds)(b:0≤k)(h1:k≤65536):Zh ds k=some (gT ds k):=by
 have L:=h.1
 unfold Zh
 rw [if_pos (by omega)]
 have:=eT (f:=fun s:Int×List Int×Int=>Zh_L1 ds s.1 s.2.1 s.2.2) (r:=gT ds k)
  (fun j=>(k / pr (ds.drop (ds.length - j)),List.replicate (ds.length - j) 0++gT (ds.drop (ds.length - j)) k,(ds.length:Int) - 1 - j)) ds.length
  (fun j J=>by
   obtain ⟨i,q⟩:∃ i,i=ds.length - (j+1):=⟨_,rfl⟩
   have F:ds.length - j=i+1:=by omega
   have B:(ds.length:Int) - 1 - (j:Int)=(i:Int):=by omega
   have a:i<ds.length:=by omega
   have E:=h.2.mem (bF a)
   have I:=(h.2.drop (i+1)).pos
   have e:ds.drop i=ix ds (i:Int)::ds.drop (i+1):=by rw [List.drop_eq_getElem_cons a,bU a]
   have g:0≤k / pr (ds.drop (i+1)):=Int.ediv_nonneg b (by omega)
   have u:k / pr (ds.drop (i+1))≤65536:=Int.le_trans (Int.ediv_le_self _ b) h1
   simp only [Zh_L1,F,B,← q]
   rw [if_pos (by simp),if_pos (by omega),if_pos (by omega),if_pos (by simp; omega)]
   have l:(k / pr (ds.drop (i+1))).tdiv (ix ds (i:Int))=k / pr (ds.drop i):=by
    rw [Int.tdiv_eq_ediv_of_nonneg g,e]; exact (sC I E.1).1.symm
   have m:(k / pr (ds.drop (i+1))).tmod (ix ds (i:Int))=k / pr (ds.drop (i+1)) % ix ds (i:Int):=Int.tmod_eq_emod_of_nonneg g
   have D:0≤k / pr (ds.drop i):=Int.ediv_nonneg b (by have:=(h.2.drop i).pos; omega)
   have G:k / pr (ds.drop i)≤65536:=Int.le_trans (Int.ediv_le_self _ b) h1
   rw [l,m,bA (by omega) (by omega),bA (by omega) (by omega)]
   congr 4
   ·rw [e,List.set_append_left _ _ (by simp),List.replicate_succ',List.set_append_right _ _ (by simp)]
    simp [gT]
   ·omega)
  (by
   simp only [Zh_L1,Nat.sub_self,List.drop_zero,List.replicate_zero,List.nil_append]
   rw [if_neg (by simp; omega)])
  (s:=(k,List.replicate (ds.length:Int).toNat 0,aH ((ds.length:Int) - 1))) (by
   rw [bA (by omega) (by omega)]
   simp [pr,gT])
 rw [this]
 rfl
theorem oC {ds is:List Int}(h:IV ds is){k:Nat}(g:k<ds.length):IV (ds.take k) (is.take k)∧lV (ds.take (k+1)) (is.take (k+1))=lV (ds.take k) (is.take k)*ix ds (k:Int)+ix is (k:Int):=by
 induction ds generalizing is k with
 | nil=>simp at g
 | cons d ds ih=>cases is with
  | nil=>exact h.elim
  | cons i is =>
   cases k with
   | zero=>simp [IV,lV,pr,ix]
   | succ k =>
    obtain ⟨a,b⟩:=ih h.2 (k:=k) (by simpa using g)
    refine ⟨⟨h.1,a⟩,?_⟩
    have e:k<ds.length:=by simpa using g
    have l:ix (d::ds) ((k+1:Nat):Int)=ix ds (k:Int):=by simp [ix]
    have m:ix (i::is) ((k+1:Nat):Int)=ix is (k:Int):=by simp [ix]
    rw [l,m]
    have j:pr (ds.take (k+1))=pr (ds.take k)*ix ds (k:Int):=by rw [List.take_succ_eq_append_getElem e,mA,bU e]; simp [pr]
    show i*pr (ds.take (k+1))+lV (ds.take (k+1)) (is.take (k+1))=(i*pr (ds.take k)+lV (ds.take k) (is.take k))*ix ds (k:Int)+ix is (k:Int)
    rw [b,j,Int.add_mul,Int.mul_assoc,Int.add_assoc]
theorem nB {ds is:List Int}(h:dZ ds)(g:IV ds is):Z0m ds is=some (lV ds is):=by
 have F:=h.1
 have m:=g.len
 unfold Z0m
 have:=eT (f:=fun s:Int×Int=>Z0m_L1 ds is s.1 s.2) (r:=lV ds is) (fun j=>(lV (ds.take j) (is.take j),(j:Int))) ds.length
  (fun j l=>by
   obtain ⟨a,b⟩:=oC g l
   have D:=mB (fun d i=>h.2.1 d (List.mem_of_mem_take i)) a
   have E:=(h.2.take j).2
   have u:=mB (fun d i=>h.2.1 d (List.mem_of_mem_take i)) (ds:=ds.take (j+1)) (is:=is.take (j+1)) (by
    by_cases e:j+1<ds.length
    ·exact (oC g e).1
    ·rw [List.take_of_length_le (by omega),List.take_of_length_le (by omega)]; exact g)
   have q:=(h.2.take (j+1)).2
   have B:=h.2.mem (bF l)
   simp only [Z0m_L1]
   rw [if_pos (by simp; omega),if_pos (by omega),if_pos (by omega),iy (by omega) (by omega) (by omega) (by omega),← b,bA (by omega) (by omega),bX (by unfold bZ; omega)])
  (by simp only [Z0m_L1]; rw [if_neg (by simp),List.take_length,List.take_of_length_le (by omega)])
  (s:=(0,0)) (by simp [lV])
 rw [this]
 rfl
theorem n6 {t:Tensor}{is:List Int}(h:TOk t.Dims t.Data)(a:IV t.Dims is):∃ x,Z16 t is=some x∧x∈t.Data:=by
 have b:=mB h.d.2.1 a
 have g:=h.l
 unfold Z16
 rw [nB h.d a]
 simp only [Option.bind_some]
 rw [if_pos (by omega)]
 refine ⟨_,rfl,?_⟩
 have e:(((lV t.Dims is).toNat:Nat):Int)=lV t.Dims is:=by omega
 rw [← e]
 exact bF (by omega)
theorem sF {t:Tensor}{is:List Int}{x:Int}(h:dZ t.Dims)(e:(t.Data.length:Int)=pr t.Dims)(a:IV t.Dims is):Z1u t is x=some (t.Data.set (lV t.Dims is).toNat x):=by
 have b:=mB h.2.1 a
 unfold Z1u
 rw [nB h a]
 simp only [Option.bind_some]
 rw [if_pos (by omega)]
def zs (f:Int→Int→Int):List Int→List Int→Int
 | a::xs,b::ys=>f a b+zs f xs ys
 | _,_=>0
theorem kJ (f:Int→Int→Int){xs ys:List Int}{j:Nat}(e:j<xs.length)(g:j<ys.length):zs f (xs.take (j+1)) (ys.take (j+1))=zs f (xs.take j) (ys.take j)+f (ix xs (j:Int)) (ix ys (j:Int)):=by
 induction xs generalizing ys j with
 | nil=>simp at e
 | cons a xs ih=>cases ys with
  | nil=>simp at g
  | cons b ys =>
   cases j with
   | zero=>simp [zs,ix]
   | succ j =>
    have h:ix (a::xs) ((j+1:Nat):Int)=ix xs (j:Int):=by simp [ix]
    have i:ix (b::ys) ((j+1:Nat):Int)=ix ys (j:Int):=by simp [ix]
    have:=ih (ys:=ys) (j:=j) (by simpa using e) (by simpa using g)
    rw [h,i]
    simp only [List.take_succ_cons,zs] at this ⊢
    omega
theorem vJ (f:Int→Int→Int){xs ys:List Int}{M:Int}(g:xs.length=ys.length)(a:∀ j:Nat,j<xs.length → -M≤f (ix xs (j:Int)) (ix ys (j:Int))∧f (ix xs (j:Int)) (ix ys (j:Int))≤M){j:Nat}(b:j≤xs.length) :
  -(j*M)≤zs f (xs.take j) (ys.take j)∧zs f (xs.take j) (ys.take j)≤j*M:=by
 induction j with
 | zero=>simp [zs]
 | succ j ih =>
  have h1:=ih (by omega)
  have h2:=a j (by omega)
  rw [kJ f (by omega) (by omega)]
  have e:((j+1:Nat):Int)*M=(j:Int)*M+M:=by rw [show ((j+1:Nat):Int)=(j:Int)+1 by omega,Int.add_mul]; omega
  rw [e]
  omega
def lw (d s:Int):Int:=if s*(d - 1)<0 then s*(d - 1) else 0
def hw (d s:Int):Int:=if s*(d - 1)>0 then s*(d - 1) else 0
theorem wM {ds is ss:List Int}(e:IV ds is)(h:ss.length=ds.length):zs lw ds ss≤zs (·*·) is ss∧zs (·*·) is ss≤zs hw ds ss:=by
 induction ds generalizing is ss with
 | nil=>cases is with
  | nil=>simp [zs]
  | cons=>exact e.elim
 | cons d ds ih=>cases is with
  | nil=>exact e.elim
  | cons i is=>cases ss with
   | nil=>simp at h
   | cons s ss =>
    obtain ⟨a,b⟩:=ih e.2 (ss:=ss) (by simpa using h)
    have h1:0≤i∧i≤d - 1:=⟨e.1.1,by have:=e.1.2; omega⟩
    have l:lw d s≤i*s∧i*s≤hw d s:=by
     unfold lw hw
     rw [Int.mul_comm i s]
     rcases Int.le_total 0 s with g | g
     ·have j:0≤s*i:=Int.mul_nonneg g h1.1
      have m:s*i≤s*(d - 1):=Int.mul_le_mul_of_nonneg_left h1.2 g
      split<;>split<;>omega
     ·have j:s*i≤0:=Int.mul_nonpos_of_nonpos_of_nonneg g h1.1
      have m:s*(d - 1)≤s*i:=Int.mul_le_mul_of_nonpos_left g h1.2
      split<;>split<;>omega
    simp only [zs]
    omega
structure VG (dims ss:List Int)(off base:Int):Prop where
 d:dZ dims
 l:ss.length=dims.length
 b:1≤base∧base≤4096
 o:0≤off∧off<base
 s:∀ s∈ss,-4096≤s∧s≤4096
 lo:0≤off+zs lw dims ss
 hi:off+zs hw dims ss<base
theorem VG.place {a ss:List Int}{b base:Int}(h:VG a ss b base){is:List Int}(e:IV a is):0≤b+zs (·*·) is ss∧b+zs (·*·) is ss<base:=by
 have h1:=wM e h.l
 have h2:=h.lo
 have g:=h.hi
 omega
theorem IV.mem {ds is:List Int}(h:IV ds is){j:Nat}(a:j<is.length):0≤ix is (j:Int)∧ix is (j:Int)<ix ds (j:Int):=by
 induction ds generalizing is j with
 | nil=>cases is with
  | nil=>simp at a
  | cons=>exact h.elim
 | cons d ds ih=>cases is with
  | nil=>exact h.elim
  | cons i is=>cases j with
   | zero=>exact h.1
   | succ j =>
    have b:ix (i::is) ((j+1:Nat):Int)=ix is (j:Int):=by simp [ix]
    have e:ix (d::ds) ((j+1:Nat):Int)=ix ds (j:Int):=by simp [ix]
    rw [b,e]
    exact ih h.2 (by simpa using a)
theorem pa {a b M N:Int}(e:0≤a)(h1:a≤M)(h2 : -N≤b)(i:b≤N)(g:0≤N) : -(M*N)≤a*b∧a*b≤M*N:=by
 have k1:a*b≤a*N:=Int.mul_le_mul_of_nonneg_left i e
 have j:a*N≤M*N:=Int.mul_le_mul_of_nonneg_right h1 g
 have h:a*(-N)≤a*b:=Int.mul_le_mul_of_nonneg_left h2 e
 rw [Int.mul_neg] at h
 omega
theorem hD {α:Type}(xs:List α){l:Int}:sub xs l (xs.length:Int)=xs.drop l.toNat:=by simp [sub]
theorem uu {v:View}{is:List Int}(h:dZ v.Dims)(E:v.Strides.length=v.Dims.length)(l:∀ s∈v.Strides,-4096≤s∧s≤4096)(D:0≤v.Offset∧v.Offset≤4096)(i:IV v.Dims is):Z15 v is=some (v.Offset+zs (·*·) is v.Strides):=by
 have q:=i.len
 have B:=h.1
 unfold Z15
 have a:∀ j:Nat,j<is.length → -(4096*4096)≤ix is (j:Int)*ix v.Strides (j:Int)∧ix is (j:Int)*ix v.Strides (j:Int)≤4096*4096:=by
  intro j b
  have h1:=i.mem b
  have h2:=h.2.mem (bF (xs:=v.Dims) (k:=j) (by omega))
  have g:=l _ (bF (xs:=v.Strides) (k:=j) (by omega))
  exact pa h1.1 (by omega) g.1 g.2 (by omega)
 have bd:∀ j,j≤is.length → -(6*(4096*4096))≤zs (·*·) (is.take j) (v.Strides.take j)∧zs (·*·) (is.take j) (v.Strides.take j)≤6*(4096*4096):=by
  intro j b
  have:=vJ (·*·) (xs:=is) (ys:=v.Strides) (M:=4096*4096) (by omega) a b
  have e:(j:Int)≤6:=by omega
  have:=Int.mul_le_mul_of_nonneg_right e (show (0:Int)≤4096*4096 by omega)
  omega
 have:=eT (f:=fun s:Int×Int=>Z15_L1 v is s.1 s.2) (r:=v.Offset+zs (·*·) is v.Strides) (fun j=>(v.Offset+zs (·*·) (is.take j) (v.Strides.take j),(j:Int))) is.length
  (fun j b=>by
   have t:=a j b
   have m:=bd (j+1) (by omega)
   have u:=bd j (by omega)
   rw [kJ (·*·) b (by omega)] at m
   simp only [Z15_L1]
   rw [if_pos (by simp; omega),if_pos (by omega),if_pos (by omega),bA (n:=ix is (j:Int)*ix v.Strides (j:Int)) (by omega) (by omega),bA (by omega) (by omega),bX (by unfold bZ; omega),kJ (·*·) b (by omega),Int.add_assoc])
  (by simp only [Z15_L1]; rw [if_neg (by simp),List.take_length,List.take_of_length_le (by omega)])
  (s:=(v.Offset,0)) (by simp [zs])
 rw [this]
 rfl
def n8 (a ss:List Int)(b:Int):List Int:=(List.range (pr a).toNat).map fun k:Nat=>b+zs (·*·) (gT a (k:Int)) ss
theorem qe {v:View}(h:dZ v.Dims)(g:v.Strides.length=v.Dims.length)(e:∀ s∈v.Strides,-4096≤s∧s≤4096)(b:0≤v.Offset∧v.Offset≤4096):Z08 v=some (n8 v.Dims v.Strides v.Offset):=by
 have i:=h.1
 have m:=h.2.pos
 have a:=h.2.2
 unfold Z08
 rw [jp (by unfold bZ; omega),if_pos h.2]
 simp only [Option.bind_some]
 have:=eT (f:=fun s:List Int×Int=>Z08_L1 v (pr v.Dims) s.1 s.2) (r:=n8 v.Dims v.Strides v.Offset) (fun j=>((List.range j).map fun k:Nat=>v.Offset+zs (·*·) (gT v.Dims (k:Int)) v.Strides,(j:Int))) (pr v.Dims).toNat
  (fun j l=>by
   simp only [Z08_L1]
   rw [if_pos (by simp; omega),jr h (by omega) (by omega)]
   simp only [Option.bind_some]
   rw [uu h g e b (gU h.2.1 _)]
   simp only [Option.bind_some]
   rw [if_pos (by simp; omega),bX (by unfold bZ; omega),List.range_succ,List.map_append]
   rfl)
  (by simp only [Z08_L1]; rw [if_neg (by simp; omega)]; rfl)
  (s:=([],0)) rfl
 rw [this]
 rfl
theorem oD (ss:List Int)(h:∀ s∈ss,-4096≤s∧s≤4096):(ss.all fun x=>!(decide (x < -4096)||decide (x>4096)))=true:=by
 rw [List.all_eq_true]
 intro x a
 have:=h x a
 simp; omega
theorem kk {v:View}(h:VG v.Dims v.Strides v.Offset v.Base):Z8 v=some true:=by
 have B:=h.d.1
 have r:=h.l
 have u:=h.b
 have D:=h.o
 unfold Z8
 rw [fX (by unfold bZ; omega)]
 simp only [h.d,decide_true,Option.bind_some]
 rw [if_neg (by simp; omega)]
 have j:=eM v.Strides (fun s:Int=>Z8_L1 v s) (fun i=>i) (fun x=>!(decide (x < -4096)||decide (x>4096))) (.inl false) (.inr ())
  (fun k m=>by
   simp only [Z8_L1]
   rw [if_pos (by simp; omega),if_pos (by omega),bX (by unfold bZ; omega)]
   cases (decide (ix v.Strides (k:Int) < -4096)||decide (ix v.Strides (k:Int)>4096))<;>rfl)
  (by simp only [Z8_L1]; rw [if_neg (by simp)])
 rw [j,oD _ h.s]
 simp only [if_true,Option.bind_some,Z8_J1]
 rw [qe h.d r h.s ⟨by omega,by omega⟩]
 simp only [Option.bind_some]
 have q:(n8 v.Dims v.Strides v.Offset).length≤4096:=by have:=h.d.2.2; simp [n8]; omega
 have a:=eM (n8 v.Dims v.Strides v.Offset) (fun s:Int=>Z8_L2 v (n8 v.Dims v.Strides v.Offset) s) (fun i=>i) (fun x=>!(decide (x<0)||decide (x≥v.Base))) (.inl false) (.inr ())
  (fun k m=>by
   simp only [Z8_L2]
   rw [if_pos (by simp; omega),if_pos (by omega),bX (by unfold bZ; omega)]
   cases (decide (ix (n8 v.Dims v.Strides v.Offset) (k:Int)<0)||decide (ix (n8 v.Dims v.Strides v.Offset) (k:Int)≥v.Base))<;>rfl)
  (by simp only [Z8_L2]; rw [if_neg (by simp)])
 have e:((n8 v.Dims v.Strides v.Offset).all fun x=>!(decide (x<0)||decide (x≥v.Base)))=true:=by
  rw [List.all_eq_true]
  intro x g
  obtain ⟨k,_,rfl⟩:=List.mem_map.1 g
  have:=h.place (gU h.d.2.1 (k:Int))
  simp; omega
 rw [a,e]
 rfl
theorem uv:Z8 ⟨[],[],0,0⟩=some false:=by
 unfold Z8
 rw [fX (by simp [bZ])]
 rfl
theorem uw:Zf ⟨[],[],0,0⟩=some false:=by
 unfold Zf
 rw [gS (by simp [bZ])]
 rfl
theorem kl {v:View}(h:VG v.Dims v.Strides v.Offset v.Base):Zf v=some true:=by
 have T:=h.d.1
 have Z:=h.l
 have G:=h.b
 have Y:=h.o
 unfold Zf
 rw [gS (by unfold bZ; omega)]
 simp only [h.d,decide_true,Option.bind_some]
 rw [if_neg (by simp; omega)]
 have e:∀ j:Nat,j<v.Dims.length → -(4096*4096)≤ix v.Strides (j:Int)*(ix v.Dims (j:Int) - 1)∧ix v.Strides (j:Int)*(ix v.Dims (j:Int) - 1)≤4096*4096:=by
  intro j a
  have h2:=h.d.2.mem (bF (xs:=v.Dims) (k:=j) a)
  have i:=h.s _ (bF (xs:=v.Strides) (k:=j) (by omega))
  rw [Int.mul_comm (ix v.Strides (j:Int))]
  exact pa (by omega) (by omega) i.1 i.2 (by omega)
 have bd:∀ (f:Int→Int→Int),(f=lw∨f=hw)→∀ j,j≤v.Dims.length → -(6*(4096*4096))≤zs f (v.Dims.take j) (v.Strides.take j)∧zs f (v.Dims.take j) (v.Strides.take j)≤6*(4096*4096):=by
  intro f D j a
  have:=vJ f (xs:=v.Dims) (ys:=v.Strides) (M:=4096*4096) (by omega) (fun j a=>by
   have:=e j a
   rcases D with rfl | rfl
   ·unfold lw; split<;>omega
   ·unfold hw; split<;>omega) a
  have g:(j:Int)≤6:=by omega
  have:=Int.mul_le_mul_of_nonneg_right g (show (0:Int)≤4096*4096 by omega)
  omega
 have:=eT (f:=fun s:Int×Int×Int=>Zf_L1 v s.1 s.2.1 s.2.2) (r:=.inr (v.Offset+zs lw v.Dims v.Strides,v.Offset+zs hw v.Dims v.Strides)) (fun j=>(v.Offset+zs lw (v.Dims.take j) (v.Strides.take j),v.Offset+zs hw (v.Dims.take j) (v.Strides.take j),(j:Int))) v.Dims.length
  (fun j a=>by
   have t:=e j a
   have a0:=bd lw (.inl rfl) j (by omega)
   have L:=bd lw (.inl rfl) (j+1) (by omega)
   have O:=bd hw (.inr rfl) j (by omega)
   have J:=bd hw (.inr rfl) (j+1) (by omega)
   have m:=kJ lw (xs:=v.Dims) (ys:=v.Strides) (j:=j) (by omega) (by omega)
   have F:=kJ hw (xs:=v.Dims) (ys:=v.Strides) (j:=j) (by omega) (by omega)
   have I:=h.s _ (bF (xs:=v.Strides) (k:=j) (by omega))
   have U:=h.d.2.mem (bF (xs:=v.Dims) (k:=j) a)
   simp only [Zf_L1]
   rw [if_pos (by simp; omega),if_pos (by omega),if_neg (by simp; omega),if_pos (by omega)]
   have E:aH (ix v.Dims (j:Int) - 1)=ix v.Dims (j:Int) - 1:=bA (by omega) (by omega)
   have B:aH (ix v.Strides (j:Int)*(ix v.Dims (j:Int) - 1))=ix v.Strides (j:Int)*(ix v.Dims (j:Int) - 1):=bA (by omega) (by omega)
   have q:lw (ix v.Dims (j:Int)) (ix v.Strides (j:Int))=if ix v.Strides (j:Int)*(ix v.Dims (j:Int) - 1)<0 then ix v.Strides (j:Int)*(ix v.Dims (j:Int) - 1) else 0:=rfl
   have u:hw (ix v.Dims (j:Int)) (ix v.Strides (j:Int))=if ix v.Strides (j:Int)*(ix v.Dims (j:Int) - 1)>0 then ix v.Strides (j:Int)*(ix v.Dims (j:Int) - 1) else 0:=rfl
   rw [E,B,← q,← u,bA (by omega) (by omega),bA (by omega) (by omega),bX (by unfold bZ; omega),m,F,Int.add_assoc,Int.add_assoc])
  (by simp only [Zf_L1]; rw [if_neg (by simp; omega),List.take_length,List.take_of_length_le (by omega)])
  (s:=(v.Offset,v.Offset,0)) (by simp [zs])
 rw [this]
 have:=h.lo
 have:=h.hi
 simp only [Option.bind_some,Zf_J1]
 congr 1
 simp; omega
def ru:List Int→List Int
 | []=>[]
 | _::ds=>pr ds::ru ds
def eH:List Int→List Int
 | []=>[]
 | d::ds=>(if d>1 then pr ds else 0)::eH ds
theorem iz (ds:List Int):(ru ds).length=ds.length:=by
 induction ds with
 | nil=>rfl
 | cons d ds ih=>simp [ru,ih]
theorem dE (ds:List Int):(eH ds).length=ds.length:=by
 induction ds with
 | nil=>rfl
 | cons d ds ih=>simp [eH,ih]
theorem dG {α:Type}[Inhabited α](x:α)(xs:List α)(j:Nat):ix (x::xs) ((j+1:Nat):Int)=ix xs (j:Int):=by simp [ix]
theorem sG {ds:List Int}{j:Nat}(h:j<ds.length):ix (ru ds) (j:Int)=pr (ds.drop (j+1)):=by
 induction ds generalizing j with
 | nil=>simp at h
 | cons d ds ih=>cases j with
  | zero=>rfl
  | succ j=>rw [ru,dG,ih (by simpa using h)]; rfl
theorem pb {ds:List Int}{j:Nat}(h:j<ds.length):ix (eH ds) (j:Int)=if ix ds (j:Int)>1 then pr (ds.drop (j+1)) else 0:=by
 induction ds generalizing j with
 | nil=>simp at h
 | cons d ds ih=>cases j with
  | zero=>rfl
  | succ j=>rw [eH,dG,dG,ih (by simpa using h)]; rfl
theorem sH {L xs:List Int}(b:L.length=xs.length){j:Nat}(a:j<xs.length):(L.take j++xs.drop j).set j (ix L (j:Int))=L.take (j+1)++xs.drop (j+1):=by
 rw [bU (by omega),List.set_append_right _ _ (by simp; omega),List.take_succ_eq_append_getElem (by omega)]
 have:j - (L.take j).length=0:=by simp; omega
 rw [this,List.drop_eq_getElem_cons a,List.set_cons_zero,List.append_assoc]
 rfl
theorem qf {L xs:List Int}(b:L.length=xs.length){j:Nat}(a:j<xs.length)(h:ix L (j:Int)=ix xs (j:Int)):L.take j++xs.drop j=L.take (j+1)++xs.drop (j+1):=by
 rw [bU (by omega),bU a] at h
 rw [List.take_succ_eq_append_getElem (by omega),List.drop_eq_getElem_cons a,h]
 simp
theorem fN {ds:List Int}(h:SZ ds):∀ s∈eH ds,0≤s∧s≤4096:=by
 induction ds with
 | nil=>intro s b; cases b
 | cons d ds ih =>
  have e:=h.tail.pos
  have a:=h.tail.2
  refine List.forall_mem_cons.2 ⟨?_,ih h.tail⟩
  split<;>omega
theorem sI {ds:List Int}(h:SZ ds):zs lw ds (eH ds)=0:=by
 induction ds with
 | nil=>rfl
 | cons d ds ih =>
  have a:=h.1 d (by simp)
  have b:=h.tail.pos
  simp only [eH,zs,ih h.tail]
  unfold lw
  split
  ·have:=Int.mul_nonneg (show 0≤pr ds by omega) (show 0≤d - 1 by omega); split<;>omega
  ·simp
theorem jN {ds:List Int}(h:SZ ds):zs hw ds (eH ds)=pr ds - 1:=by
 induction ds with
 | nil=>rfl
 | cons d ds ih =>
  have a:=h.1 d (by simp)
  have b:=h.tail.pos
  simp only [eH,zs,ih h.tail]
  have e:pr (d::ds)=pr ds*(d - 1)+pr ds:=by simp only [pr]; rw [Int.mul_sub,Int.mul_comm (pr ds) d]; omega
  rw [e]
  unfold hw
  by_cases c:d>1
  ·have:0<pr ds*(d - 1):=Int.mul_pos (by omega) (by omega)
   rw [if_pos c,if_pos this]; omega
  ·have:d=1:=by omega
   subst this; simp
theorem sJ {ds:List Int}(h:dZ ds):VG ds (eH ds) 0 (pr ds):=by
 have b:=h.2.pos
 have a:=h.2.2
 refine ⟨h,dE ds,⟨b,a⟩,⟨by omega,by omega⟩,fun s e=>by have:=fN h.2 s e; omega,?_,?_⟩
 ·rw [sI h.2]; decide
 ·rw [jN h.2]; omega
theorem qV {ds is:List Int}(a:IV ds is):zs (·*·) is (eH ds)=lV ds is:=by
 induction ds generalizing is with
 | nil=>cases is with
  | nil=>rfl
  | cons=>exact a.elim
 | cons d ds ih=>cases is with
  | nil=>exact a.elim
  | cons i is =>
   have:=a.1
   simp only [eH,zs,lV,ih a.2]
   split
   ·rfl
   ·have:i=0:=by omega
    subst this; simp
theorem n9 {ds:List Int}(h:SZ ds):n8 ds (eH ds) 0=(List.range (pr ds).toNat).map fun k:Nat=>(k:Int):=by
 unfold n8
 refine List.map_congr_left fun k a=>?_
 have a:k<(pr ds).toNat:=by simpa using a
 have:=h.pos
 rw [qV (gU h.1 _),qU h.1 (by omega) (by omega)]
 omega
def bT (ds:List Int):View:=⟨ds,eH ds,0,pr ds⟩
def dQ:View:=⟨[],[],0,0⟩
theorem ux {ds:List Int}(h:dZ ds):Z0d ⟨ds,ru ds,0,pr ds⟩=some (bT ds):=by
 have b:=h.1
 unfold Z0d
 have:=eT (f:=fun s:Int×List Int=>Z0d_L1 ⟨ds,ru ds,0,pr ds⟩ s.1 s.2) (r:=eH ds) (fun j=>((j:Int),(eH ds).take j++(ru ds).drop j)) ds.length
  (fun j a=>by
   have g:=h.2.mem (bF a)
   simp only [Z0d_L1,Z0d_J2]
   rw [if_pos (by simp; omega),if_pos (by omega)]
   by_cases c:ix ds (j:Int)=1
   ·rw [if_pos (by simp [c]),if_pos (by rw [iz]; omega),bX (by unfold bZ; omega)]
    have e:=sH (L:=eH ds) (xs:=ru ds) (by rw [dE,iz]) (j:=j) (by rw [iz]; omega)
    rw [pb a,if_neg (by omega)] at e
    simp only [Int.toNat_natCast]
    rw [e]
   ·rw [if_neg (by simp [c]),bX (by unfold bZ; omega),qf (by rw [dE,iz]) (by rw [iz]; omega) (by rw [pb a,sG a,if_pos (by omega)])])
  (by simp only [Z0d_L1]; rw [if_neg (by simp)]; rw [List.take_of_length_le (by rw [dE]; omega),List.drop_of_length_le (by rw [iz]; omega),List.append_nil])
  (s:=(0,ru ds)) (by simp)
 rw [this]
 rfl
theorem jX {ds:List Int}(h:dZ ds):Zu ds=some (bT ds):=by
 have b:=h.1
 unfold Zu
 rw [fX (by unfold bZ; omega)]
 simp only [h,decide_true,Option.bind_some,Bool.not_true,Bool.false_eq_true,if_false]
 rw [hN (by omega),jp (by unfold bZ; omega),if_pos h.2]
 simp only [Option.bind_some]
 have:=eT (f:=fun s:List Int×Int=>Zu_L1 ds s.1 s.2) (r:=ru ds) (fun j=>((ru ds).take j,(j:Int))) ds.length
  (fun j a=>by
   simp only [Zu_L1]
   rw [if_pos (by simp; omega),bX (by unfold bZ; omega),if_pos (by omega),hD,Int.toNat_natCast,jp (by simp [bZ]; omega),if_pos (h.2.drop (j+1))]
   simp only [Option.bind_some]
   rw [if_pos (by simp; omega),List.take_succ_eq_append_getElem (by rw [iz]; omega),← sG a,bU (by rw [iz]; omega)])
  (by simp only [Zu_L1]; rw [if_neg (by simp),List.take_of_length_le (by rw [iz]; omega)])
  (s:=([],0)) rfl
 rw [this]
 simp only [Option.bind_some,Zu_J1]
 rw [ux h]
 rfl
theorem nC {ds:List Int}(h:dZ ds):Z02 ds=some (eH ds):=by
 have D:=h.1
 unfold Z02
 rw [if_pos (by omega)]
 have:=eT (f:=fun s:List Int×Int×Int=>Z02_L1 ds s.1 s.2.1 s.2.2) (r:=eH ds)
  (fun j=>(List.replicate (ds.length - j) 0++eH (ds.drop (ds.length - j)),pr (ds.drop (ds.length - j)),(ds.length:Int) - 1 - j)) ds.length
  (fun j B=>by
   obtain ⟨i,m⟩:∃ i,i=ds.length - (j+1):=⟨_,rfl⟩
   have q:ds.length - j=i+1:=by omega
   have u:(ds.length:Int) - 1 - (j:Int)=(i:Int):=by omega
   have a:i<ds.length:=by omega
   have E:=h.2.mem (bF a)
   have F:=(h.2.drop (i+1)).pos
   have l:=(h.2.drop (i+1)).2
   have b:ds.drop i=ix ds (i:Int)::ds.drop (i+1):=by rw [List.drop_eq_getElem_cons a,bU a]
   have e:pr (ds.drop i)=pr (ds.drop (i+1))*ix ds (i:Int):=by rw [b]; simp [pr,Int.mul_comm]
   simp only [Z02_L1,Z02_J2,q,u,← m]
   rw [if_pos (by simp),if_pos (by omega)]
   have g:aH ((i:Int) - 1)=(ds.length:Int) - 1 - ((j+1:Nat):Int):=by rw [bA (by omega) (by omega)]; omega
   by_cases c:ix ds (i:Int)>1
   ·rw [if_pos (by simp; omega),if_pos (by simp; omega),if_pos (by omega),iy (by omega) (by omega) (by omega) (by omega),← e,g]
    congr 3
    rw [b,List.replicate_succ',List.set_append_left _ _ (by simp),List.set_append_right _ _ (by simp)]
    simp [eH,c]
   ·rw [if_neg (by simp; omega),if_pos (by omega),iy (by omega) (by omega) (by omega) (by omega),← e,g]
    congr 3
    rw [b,List.replicate_succ']
    simp [eH,c])
  (by
   simp only [Z02_L1,Nat.sub_self,List.drop_zero,List.replicate_zero,List.nil_append]
   rw [if_neg (by simp; omega)])
  (s:=(List.replicate (ds.length:Int).toNat 0,1,aH ((ds.length:Int) - 1))) (by
   rw [bA (by omega) (by omega)]
   simp [pr,eH])
 rw [this]
 rfl
theorem kK {ds:List Int}(h:dZ ds):Z2n ds=some (bT ds):=by
 have a:=h.1
 unfold Z2n
 rw [gS (by unfold bZ; omega)]
 simp only [h,decide_true,Option.bind_some,Bool.not_true,Bool.false_eq_true,if_false]
 rw [gF (by omega),nC h,l5 (by unfold bZ; omega) h.2]
 rfl
def fO (n:Nat):List Int:=List.replicate n 0
def pc:List Int→List Int→Option (List Int)
 | d::ds,i::is=>match pc ds is with
  | some q=>some (i::q)
  | none=>if i+1<d then some ((i+1)::fO ds.length) else none
 | _,_=>none
theorem sK {ds is:List Int}(h:is.length=ds.length)(d i:Int):pc (ds++[d]) (is++[i])=if i+1<d then some (is++[i+1]) else (pc ds is).map (·++[0]):=by
 induction ds generalizing is with
 | nil=>cases is with
  | nil=>simp [pc,fO]
  | cons=>simp at h
 | cons e ds ih=>cases is with
  | nil=>simp at h
  | cons j is =>
   have:=ih (is:=is) (by simpa using h)
   simp only [List.cons_append,pc,this]
   by_cases c:i+1<d
   ·simp [c]
   ·simp only [c,if_false]
    cases pc ds is with
    | some q=>simp
    | none =>
     simp only [Option.map_none]
     split
     ·simp [fO,List.replicate_succ']
     ·simp
theorem qg {ds:List Int}(h:∀ d∈ds,1≤d){m:Int}(l:m % pr ds=0):gT ds m=fO ds.length:=by
 induction ds generalizing m with
 | nil=>rfl
 | cons d ds ih =>
  have i:1≤pr ds:=fE fun x g=>h x (by simp [g])
  have j:=h d (by simp)
  have e:=(sC (k:=m) i j).2
  have a:=Int.emod_nonneg m (show pr ds≠0 by omega)
  have c:=Int.emod_nonneg (m / pr ds) (show d≠0 by omega)
  have u:m % (d*pr ds)=0:=l
  have b:=Int.mul_nonneg c (show 0≤pr ds by omega)
  have s:=iK c i
  have q:m % pr ds=0:=by omega
  have r:m / pr ds % d=0:=by omega
  simp only [gT,r,ih (fun x g=>h x (by simp [g])) q]
  simp [fO,List.replicate_succ]
theorem qh {ds:List Int}(h:∀ d∈ds,1≤d)(k:Int):pc ds (gT ds k)=if k % pr ds+1<pr ds then some (gT ds (k+1)) else none:=by
 induction ds generalizing k with
 | nil=>simp [pc,pr,Int.emod_one]
 | cons d ds ih =>
  have B:1≤pr ds:=fE fun x j=>h x (by simp [j])
  have m:=h d (by simp)
  have l:∀ x∈ds,1≤x:=fun x j=>h x (by simp [j])
  have e:=(sC (k:=k) B m).2
  have a:=Int.emod_nonneg k (show pr ds≠0 by omega)
  have E:=Int.emod_lt_of_pos k (show 0<pr ds by omega)
  have c:=Int.emod_nonneg (k / pr ds) (show d≠0 by omega)
  have G:=Int.emod_lt_of_pos (k / pr ds) (show 0<d by omega)
  have I:=Int.mul_ediv_add_emod k (pr ds)
  have i:pr (d::ds)=d*pr ds:=rfl
  have b:(k / pr ds % d+1)*pr ds≤d*pr ds:=Int.mul_le_mul_of_nonneg_right (by omega) (by omega)
  rw [Int.add_mul] at b
  simp only [gT,pc,ih l]
  by_cases q:k % pr ds+1<pr ds
  ·have f:=(Int.ediv_emod_unique (a:=k+1) (b:=pr ds) (r:=k % pr ds+1) (q:=k / pr ds) (by omega)).2 ⟨by omega,by omega,by omega⟩
   simp only [if_pos q,f.1]
   rw [if_pos (show k % pr (d::ds)+1<pr (d::ds) by rw [i,e]; omega)]
  ·have D:k % pr ds=pr ds - 1:=by omega
   have f:=(Int.ediv_emod_unique (a:=k+1) (b:=pr ds) (r:=0) (q:=k / pr ds+1) (by omega)).2 ⟨by rw [Int.mul_add]; omega,by omega,by omega⟩
   simp only [if_neg q,f.1]
   by_cases g:k / pr ds % d+1<d
   ·have F:=Int.mul_ediv_add_emod (k / pr ds) d
    have s:=(Int.ediv_emod_unique (a:=k / pr ds+1) (b:=d) (r:=k / pr ds % d+1) (q:=k / pr ds / d) (by omega)).2 ⟨by omega,by omega,by omega⟩
    have u:(k / pr ds % d+2)*pr ds≤d*pr ds:=Int.mul_le_mul_of_nonneg_right (by omega) (by omega)
    rw [Int.add_mul] at u
    rw [if_pos g,if_pos (show k % pr (d::ds)+1<pr (d::ds) by rw [i,e]; omega),s.2,qg l f.2]
   ·have g1:k / pr ds % d=d - 1:=by omega
    have J:k / pr ds % d*pr ds=d*pr ds - pr ds:=by rw [g1,Int.sub_mul]; omega
    rw [if_neg g,if_neg (show ¬ k % pr (d::ds)+1<pr (d::ds) by rw [i,e]; omega)]
theorem wN (f:Int→Int→Int){xs ys:List Int}{j:Nat}{a:Int}(e:j<xs.length)(b:j<ys.length):zs f (xs.set j a) ys=zs f xs ys - f (ix xs (j:Int)) (ix ys (j:Int))+f a (ix ys (j:Int)):=by
 induction xs generalizing ys j with
 | nil=>simp at e
 | cons x xs ih=>cases ys with
  | nil=>simp at b
  | cons y ys=>cases j with
   | zero=>simp [zs,ix]; omega
   | succ j =>
    rw [dG,dG,List.set_cons_succ]
    simp only [zs,ih (ys:=ys) (j:=j) (by simpa using e) (by simpa using b)]
    omega
theorem oE {O:Type}{YF:O→Int→Option (O×Bool)}{ds ss:List Int}{m base:Int}(h:VG ds ss m base){is:List Int}(E:IV ds is):∀ p,p≤ds.length →
  (∀ q,pc (ds.take p) (is.take p)=some q→∃ i:Int,0≤i∧aR (fun s:List Int×Int×Int=>Z01_L2 O YF ds ss s.1 s.2.1 s.2.2) (is.take p++fO (ds.length - p),m+zs (·*·) (is.take p++fO (ds.length - p)) ss,(p:Int) - 1)=some (q++fO (ds.length - p),m+zs (·*·) (q++fO (ds.length - p)) ss,i)) ∧
  (pc (ds.take p) (is.take p)=none→∃ x y,aR (fun s:List Int×Int×Int=>Z01_L2 O YF ds ss s.1 s.2.1 s.2.2) (is.take p++fO (ds.length - p),m+zs (·*·) (is.take p++fO (ds.length - p)) ss,(p:Int) - 1)=some (x,y,-1)):=by
 intro p
 have hn:=h.d.1
 have hl:=h.l
 have a5:=E.len
 induction p with
 | zero =>
  intro _
  refine ⟨fun q u=>by simp [pc] at u,fun _=>⟨is.take 0++fO (ds.length - 0),m+zs (·*·) (is.take 0++fO (ds.length - 0)) ss,cX ?_⟩⟩
  simp only [Z01_L2]
  rw [if_neg (by simp)]
  rfl
 | succ p ih =>
  intro I
  obtain ⟨a3,a1⟩:=ih (by omega)
  have hm:=E.mem (j:=p) (by omega)
  have a6:=h.d.2.mem (bF (xs:=ds) (k:=p) (by omega))
  have J:=h.s _ (bF (xs:=ss) (k:=p) (by omega))
  have ti:is.take (p+1)=is.take p++[ix is (p:Int)]:=by rw [List.take_succ_eq_append_getElem (by omega),bU (by omega)]
  have td:ds.take (p+1)=ds.take p++[ix ds (p:Int)]:=by rw [List.take_succ_eq_append_getElem (by omega),bU (by omega)]
  have U:(is.take p).length=(ds.take p).length:=by simp; omega
  have F:=sK U (ix ds (p:Int)) (ix is (p:Int))
  rw [← ti,← td] at F
  obtain ⟨g,r⟩:∃ g,g=is.take (p+1)++fO (ds.length - (p+1)):=⟨_,rfl⟩
  have a2:g.length=ds.length:=by rw [r]; simp [fO]; omega
  have T:ix g (p:Int)=ix is (p:Int):=by
   have a4:p<g.length:=by omega
   rw [bU a4,bU (by omega)]
   subst r
   rw [List.getElem_append_left (by simp; omega)]
   simp
  have B:∀ a:Int,g.set p a=is.take p++a::fO (ds.length - (p+1)):=by
   intro a
   rw [r,ti,List.append_assoc,List.set_append_right _ _ (by simp; omega)]
   have:p - (is.take p).length=0:=by simp; omega
   rw [this]
   rfl
  have Y:∀ a:Int,0≤a→a<ix ds (p:Int)→0≤m+zs (·*·) (g.set p a) ss∧m+zs (·*·) (g.set p a) ss≤4096:=by
   intro a h0 h1
   have a0:∀ (ds is:List Int),IV ds is→(∀ d∈ds,1≤d)→∀ p,p<ds.length→0≤a→a<ix ds (p:Int)→IV ds (is.take p++a::fO (ds.length - (p+1))):=by
    intro ds
    induction ds with
    | nil=>intro is _ _ p I; simp at I
    | cons d ds ihd =>
     intro is E D p I h0 h1
     cases is with
     | nil=>exact E.elim
     | cons i is =>
      cases p with
      | zero =>
       refine ⟨⟨h0,h1⟩,?_⟩
       have hz:∀ ds:List Int,(∀ d∈ds,1≤d)→IV ds (fO ds.length):=by
        intro ds
        induction ds with
        | nil=>intro _; trivial
        | cons d ds ihz=>intro I; exact ⟨⟨Int.le_refl 0,by have:=I d (by simp); omega⟩,ihz fun x L=>I x (by simp [L])⟩
       exact hz ds fun x L=>D x (by simp [L])
      | succ p =>
       rw [dG] at h1
       have:=ihd is E.2 (fun x L=>D x (by simp [L])) p (by simpa using I) h0 h1
       refine ⟨E.1,?_⟩
       simpa using this
   have:=h.place (a0 ds is E h.d.2.1 p (by omega) h0 h1)
   have:=h.b
   rw [B]
   omega
  have G:=fun a=>wN (·*·) (xs:=g) (ys:=ss) (j:=p) (a:=a) (by omega) (by omega)
  rw [T] at G
  have b0:=Y (ix is (p:Int)) hm.1 hm.2
  have e0:g.set p (ix is (p:Int))=g:=by rw [B,r,ti]; simp
  rw [e0] at b0
  have Z:Z01_L2 O YF ds ss g (m+zs (·*·) g ss) ((p+1:Nat) - 1:Int)=if ix is (p:Int)+1<ix ds (p:Int) then some (.inr (g.set p (ix is (p:Int)+1),m+zs (·*·) (g.set p (ix is (p:Int)+1)) ss,(p:Int))) else some (.inl (g.set p 0,m+zs (·*·) (g.set p 0) ss,(p:Int) - 1)):=by
   have ep:((p+1:Nat) - 1:Int)=(p:Int):=by omega
   have w1:aH (ix is (p:Int)+1)=ix is (p:Int)+1:=bA (by omega) (by omega)
   have w2:aH (m+zs (·*·) g ss+ix ss (p:Int))=m+zs (·*·) g ss+ix ss (p:Int):=bA (by omega) (by omega)
   have mb:=pa (a:=ix ds (p:Int)) (b:=ix ss (p:Int)) (M:=4096) (N:=4096) (by omega) (by omega) J.1 J.2 (by omega)
   rw [Int.mul_comm (ix ds (p:Int))] at mb
   have w3:aH (ix ss (p:Int)*ix ds (p:Int))=ix ss (p:Int)*ix ds (p:Int):=bA (by omega) (by omega)
   have e1:ix (g.set p (ix is (p:Int)+1)) (p:Int)=ix is (p:Int)+1:=by rw [bU (by simp; omega)]; simp
   rw [ep]
   simp only [Z01_L2,Int.toNat_natCast,T,w1,w2,w3,e1]
   rw [if_pos (by simp),if_pos (by simp; omega),if_pos (by omega),if_pos (by omega)]
   by_cases c:ix is (p:Int)+1<ix ds (p:Int)
   ·rw [if_pos (by simpa using c),if_pos c,G (ix is (p:Int)+1),Int.add_mul]
    congr 4
    omega
   ·rw [if_neg (by simpa using c),if_neg c]
    have em:ix ss (p:Int)*ix ds (p:Int)=ix is (p:Int)*ix ss (p:Int)+ix ss (p:Int):=by
     rw [show ix ds (p:Int)=ix is (p:Int)+1 by omega,Int.mul_add,Int.mul_comm]; omega
    have bz:=Y 0 (by omega) (by omega)
    have z0:=G 0
    simp only [Int.zero_mul] at z0
    rw [nm,Option.bind_some,List.set_set,bA (by omega) (by omega),bA (by omega) (by omega),z0]
    congr 4
    omega
  rw [← r]
  by_cases c:ix is (p:Int)+1<ix ds (p:Int)
  ·rw [if_pos c] at Z F
   refine ⟨fun q u=>⟨(p:Int),by omega,?_⟩,fun u=>by rw [F] at u; cases u⟩
   rw [F] at u
   cases u
   rw [cX Z,B]
   simp
  ·rw [if_neg c] at Z F
   have e2:g.set p 0=is.take p++fO (ds.length - p):=by
    rw [B,show ds.length - p=(ds.length - (p+1))+1 by omega]; rfl
   rw [e2] at Z
   rw [eC Z]
   refine ⟨fun q u=>?_,fun u=>a1 (by rw [F] at u; simpa using u)⟩
   rw [F] at u
   cases e:pc (ds.take p) (is.take p) with
   | none=>rw [e] at u; cases u
   | some q' =>
    rw [e] at u
    cases u
    obtain ⟨i,h1,h2⟩:=a3 q' e
    refine ⟨i,h1,?_⟩
    rw [h2]
    have:fO (ds.length - p)=0::fO (ds.length - (p+1)):=by rw [show ds.length - p=(ds.length - (p+1))+1 by omega]; rfl
    rw [this]
    simp
theorem qW {g:Type}{YF:g→Int→Option (g×Bool)}{ds ss:List Int}{b base:Int}(h:VG ds ss b base)(I:Nat→g→Prop)
  (u:∀ (k:Nat) y,(k:Int)<pr ds→I k y→∃ a,YF y (b+zs (·*·) (gT ds (k:Int)) ss)=some (a,true)∧I (k+1) a) {y:g} (B:I 0 y) :
  ∃ a,Z01 g YF y ds b ss=some a∧I (pr ds).toNat a:=by
 have M:=h.d.1
 have O:=h.d.2.pos
 unfold Z01
 rw [if_pos (by omega)]
 have q:∀ m k y,k+1+m=(pr ds).toNat→I k y→∃ a,aR (fun s:List Int×Int×g=>Z01_L1 g YF ds ss s.1 s.2.1 s.2.2) (gT ds (k:Int),b+zs (·*·) (gT ds (k:Int)) ss,y)=some a∧I (pr ds).toNat a:=by
  intro m
  induction m with
  | zero =>
   intro k y E r
   obtain ⟨a,h1,h2⟩:=u k y (by omega) r
   obtain ⟨_,j⟩:=oE (YF:=YF) h (gU h.d.2.1 (k:Int)) ds.length (Nat.le_refl _)
   rw [List.take_length,List.take_of_length_le (by rw [jq]; omega),Nat.sub_self] at j
   have e:pc ds (gT ds (k:Int))=none:=by
    rw [qh h.d.2.1,Int.emod_eq_of_lt (by omega) (by omega),if_neg (by omega)]
   obtain ⟨x,z,l⟩:=j e
   refine ⟨a,cX ?_,by rw [show (pr ds).toNat=k+1 by omega]; exact h2⟩
   simp only [Z01_L1,h1,Option.bind_some,Bool.not_true,Bool.false_eq_true,if_false]
   rw [bA (by omega) (by omega)]
   simp only [fO,List.replicate_zero,List.append_nil] at l
   rw [l]
   rfl
  | succ m ih =>
   intro k y E r
   obtain ⟨a,h1,h2⟩:=u k y (by omega) r
   obtain ⟨j,_⟩:=oE (YF:=YF) h (gU h.d.2.1 (k:Int)) ds.length (Nat.le_refl _)
   rw [List.take_length,List.take_of_length_le (by rw [jq]; omega),Nat.sub_self] at j
   have e:pc ds (gT ds (k:Int))=some (gT ds ((k:Int)+1)):=by
    rw [qh h.d.2.1,Int.emod_eq_of_lt (by omega) (by omega),if_pos (by omega)]
   obtain ⟨i,L,l⟩:=j _ e
   have F:(k:Int)+1=((k+1:Nat):Int):=by omega
   have D:=eC (f:=fun s:List Int×Int×g=>Z01_L1 g YF ds ss s.1 s.2.1 s.2.2) (s:=(gT ds (k:Int),b+zs (·*·) (gT ds (k:Int)) ss,y)) (s':=(gT ds ((k+1:Nat):Int),b+zs (·*·) (gT ds ((k+1:Nat):Int)) ss,a)) (by
    simp only [Z01_L1,h1,Option.bind_some,Bool.not_true,Bool.false_eq_true,if_false]
    rw [bA (by omega) (by omega)]
    simp only [fO,List.replicate_zero,List.append_nil] at l
    rw [l,F]
    simp only [Option.bind_some,Z01_J2]
    rw [if_neg (by simp; omega)])
   rw [D]
   exact ih (k+1) a (by omega) h2
 obtain ⟨a,h1,h2⟩:=q ((pr ds).toNat - 1) 0 y (by omega) B
 refine ⟨a,?_,h2⟩
 have e:gT ds ((0:Nat):Int)=fO ds.length:=qg h.d.2.1 (by simp)
 have G:∀ (n:Nat) (ss:List Int),zs (·*·) (fO n) ss=0:=by
  intro n
  induction n with
  | zero=>intro ss; simp [fO,zs]
  | succ n ihn=>intro ss; cases ss with
   | nil=>simp [fO,zs]
   | cons s ss=>have:=ihn ss; simp only [fO,List.replicate_succ,zs] at this ⊢; rw [this]; simp
 rw [e,G] at h1
 have J:(ds.length:Int).toNat=ds.length:=by omega
 rw [J]
 simp only [Int.add_zero] at h1
 rw [show List.replicate ds.length (0:Int)=fO ds.length from rfl,h1]
 rfl
theorem uy {v:View}(h:VG v.Dims v.Strides v.Offset v.Base):∃ ps,Z2h v=some (v.Dims,ps,true):=by
 have b:=h.d.2.2
 unfold Z2h
 rw [kl h]
 simp only [Option.bind_some,Bool.not_true,Bool.false_eq_true,if_false,Z33]
 obtain ⟨ps,h1,_⟩:=qW (YF:=fun (s:List pair) (x:Int)=>Z3r s x) h (fun k (y:List pair)=>y.length=k) (fun k y e a=>by
  simp only [Z3r]
  rw [if_pos (by simp; omega)]
  exact ⟨_,rfl,by simp [a]⟩) (y:=[]) rfl
 exact ⟨ps,by rw [h1]; rfl⟩
def lE:List Int→List Int→Bool
 | a::xs,b::ys=>(a==b||a==1)&&lE xs ys
 | _,_=>true
def nU:List Int→List Int→List Int→List Int
 | a::xs,b::ys,s::ss=>(if a=b then s else 0)::nU xs ys ss
 | _,_,_=>[]
theorem jY {xs ys ss:List Int}(h1:ys.length=xs.length)(h2:ss.length=xs.length):(nU xs ys ss).length=xs.length:=by
 induction xs generalizing ys ss with
 | nil=>rfl
 | cons a xs ih=>cases ys with
  | nil=>simp at h1
  | cons b ys=>cases ss with
   | nil=>simp at h2
   | cons s ss=>simp only [nU,List.length_cons]; rw [ih (by simpa using h1) (by simpa using h2)]
theorem wO {xs ys ss:List Int}(h1:ys.length=xs.length)(h2:ss.length=xs.length){j:Nat}(e:j<xs.length):ix (nU xs ys ss) (j:Int)=if ix xs (j:Int)=ix ys (j:Int) then ix ss (j:Int) else 0:=by
 induction xs generalizing ys ss j with
 | nil=>simp at e
 | cons a xs ih=>cases ys with
  | nil=>simp at h1
  | cons b ys=>cases ss with
   | nil=>simp at h2
   | cons s ss=>cases j with
    | zero=>rfl
    | succ j=>rw [nU,dG,dG,dG,dG,ih (by simpa using h1) (by simpa using h2) (by simpa using e)]
theorem qi {xs ys:List Int}(h1:ys.length=xs.length)(h:lE xs ys=true){j:Nat}(e:j<xs.length):ix xs (j:Int)=ix ys (j:Int)∨ix xs (j:Int)=1:=by
 induction xs generalizing ys j with
 | nil=>simp at e
 | cons a xs ih=>cases ys with
  | nil=>simp at h1
  | cons b ys =>
   simp only [lE,Bool.and_eq_true,Bool.or_eq_true,beq_iff_eq] at h
   cases j with
   | zero=>exact h.1
   | succ j=>rw [dG,dG]; exact ih (by simpa using h1) h.2 (by simpa using e)
theorem qk {xs ys:List Int}(h1:ys.length=xs.length)(h:lE xs ys=false):∃ m,m<xs.length∧ix xs (m:Int)≠ix ys (m:Int)∧ix xs (m:Int)≠1∧∀ j:Nat,j<m→ix xs (j:Int)=ix ys (j:Int)∨ix xs (j:Int)=1:=by
 induction xs generalizing ys with
 | nil=>simp [lE] at h
 | cons a xs ih=>cases ys with
  | nil=>simp at h1
  | cons b ys =>
   by_cases c:a=b∨a=1
   ·have:lE xs ys=false:=by
     simp only [lE] at h
     rcases c with c | c<;>simpa [c] using h
    obtain ⟨m,l,r,q,g⟩:=ih (by simpa using h1) this
    refine ⟨m+1,by simpa using l,by rw [dG,dG]; exact r,by rw [dG]; exact q,?_⟩
    intro j i
    cases j with
    | zero=>exact c
    | succ j=>rw [dG,dG]; exact g j (by omega)
   ·exact ⟨0,by simp,fun e=>c (.inl e),fun e=>c (.inr e),fun j i=>by omega⟩
theorem sM (f:Int→Int→Int){a b c e:List Int}(h:a.length=b.length):zs f (a++c) (b++e)=zs f a b+zs f c e:=by
 induction a generalizing b with
 | nil=>cases b with
  | nil=>simp [zs]
  | cons=>simp at h
 | cons x a ih=>cases b with
  | nil=>simp at h
  | cons y b=>simp only [List.cons_append,zs,ih (b:=b) (by simpa using h)]; omega
theorem wP (f:Int→Int→Int)(a:∀ d,f d 0=0)(ds:List Int)(n:Nat):zs f ds (fO n)=0:=by
 induction ds generalizing n with
 | nil=>simp [zs]
 | cons d ds ih=>cases n with
  | zero=>simp [fO,zs]
  | succ n=>have:=ih n; simp only [fO,List.replicate_succ,zs,a] at this ⊢; omega
theorem Bc (d:Int):hw d 0=0:=by simp [hw]
theorem wQ {d s:Int}(b:1≤d)(a:0≤s):lw d s=0:=by
 have:=Int.mul_nonneg a (show 0≤d - 1 by omega)
 unfold lw; split<;>omega
theorem iL {d s:Int}(b:1≤d)(a:0≤s):hw d s=s*(d - 1):=by
 have:=Int.mul_nonneg a (show 0≤d - 1 by omega)
 unfold hw; split<;>omega
theorem pd {ds ss:List Int}(b:∀ d∈ds,1≤d)(e:∀ s∈ss,0≤s):zs lw ds ss=0:=by
 induction ds generalizing ss with
 | nil=>simp [zs]
 | cons d ds ih=>cases ss with
  | nil=>simp [zs]
  | cons s ss =>
   simp only [zs,wQ (b d (by simp)) (e s (by simp)),ih (ss:=ss) (fun x a=>b x (by simp [a])) (fun x a=>e x (by simp [a]))]
   omega
theorem wR {xs ys ss:List Int}(e:∀ d∈xs,1≤d)(l:∀ d∈ys,1≤d)(i:∀ s∈ss,0≤s):zs hw ys (nU xs ys ss)≤zs hw xs ss∧∀ s∈nU xs ys ss,0≤s:=by
 induction xs generalizing ys ss with
 | nil=>cases ys<;>simp [nU,zs]
 | cons a xs ih=>cases ys with
  | nil =>
   refine ⟨?_,by simp [nU]⟩
   have j:∀ (xs ss:List Int),(∀ d∈xs,1≤d)→(∀ s∈ss,0≤s)→0≤zs hw xs ss:=by
    intro xs
    induction xs with
    | nil=>intro ss _ _; simp [zs]
    | cons d ds ihh=>intro ss h1 h2; cases ss with
     | nil=>simp [zs]
     | cons s ss =>
      have:=ihh ss (fun x e=>h1 x (by simp [e])) (fun x e=>h2 x (by simp [e]))
      have q:=iL (h1 d (by simp)) (h2 s (by simp))
      have B:=Int.mul_nonneg (h2 s (by simp)) (show 0≤d - 1 by have:=h1 d (by simp); omega)
      simp only [zs]; omega
   simpa [zs] using j (a::xs) ss e i
  | cons b ys=>cases ss with
   | nil=>simp [nU,zs]
   | cons s ss =>
    obtain ⟨h1,h2⟩:=ih (ys:=ys) (ss:=ss) (fun x h=>e x (by simp [h])) (fun x h=>l x (by simp [h])) (fun x h=>i x (by simp [h]))
    have m:=e a (by simp)
    have r:=l b (by simp)
    have g:=i s (by simp)
    have D:=iL m g
    have u:=Int.mul_nonneg g (show 0≤a - 1 by omega)
    refine ⟨?_,?_⟩
    ·simp only [nU,zs]
     split
     ·rename_i c; subst c; omega
     ·rw [Bc]; omega
    ·simp only [nU]
     refine List.forall_mem_cons.2 ⟨?_,h2⟩
     split<;>omega
theorem iP {ds:List Int}(h:dZ ds):VG (bT ds).Dims (bT ds).Strides (bT ds).Offset (bT ds).Base:=sJ h
def jy (ds d:List Int):List Int:=fO (d.length - ds.length)++nU ds (d.drop (d.length - ds.length)) (eH ds)
theorem na {ds d:List Int}(h:dZ ds)(l:dZ d)(G:ds.length≤d.length):VG d (jy ds d) 0 (pr ds):=by
 have F:=h.2.pos
 have r:=h.2.2
 have m:(d.drop (d.length - ds.length)).length=ds.length:=by simp; omega
 have B:∀ s∈eH ds,0≤s:=fun s g=>(fN h.2 s g).1
 obtain ⟨h1,h2⟩:=wR (ys:=d.drop (d.length - ds.length)) h.2.1 (fun x q=>l.2.1 x (List.mem_of_mem_drop q)) B
 have j:∀ s∈jy ds d,0≤s:=by
  intro s g
  rcases List.mem_append.1 g with g | g
  ·have:=(List.mem_replicate.1 g).2; omega
  ·exact h2 s g
 have E:d=d.take (d.length - ds.length)++d.drop (d.length - ds.length):=(List.take_append_drop _ _).symm
 have D:zs hw d (jy ds d)≤pr ds - 1:=by
  have e:zs hw d (jy ds d)=zs hw (d.take (d.length - ds.length)++d.drop (d.length - ds.length)) (jy ds d):=by rw [List.take_append_drop]
  rw [e,jy,sM _ (by simp [fO]),wP _ Bc,← jN h.2]
  omega
 refine ⟨l,by simp only [jy,List.length_append,jY m (dE ds)]; simp [fO]; omega,⟨F,r⟩,⟨by omega,by omega⟩,?_,?_,by omega⟩
 ·intro s g
  refine ⟨by have:=j s g; omega,?_⟩
  rcases List.mem_append.1 g with g | g
  ·have:=(List.mem_replicate.1 g).2; omega
  ·have u:∀ (xs ys ss:List Int),(∀ s∈ss,s≤4096)→∀ s∈nU xs ys ss,s≤4096:=by
    intro xs
    induction xs with
    | nil=>intro ys ss _ s g; cases ys<;>simp [nU] at g
    | cons a xs ih=>intro ys ss i; cases ys with
     | nil=>simp [nU]
     | cons b ys=>cases ss with
      | nil=>simp [nU]
      | cons t ss =>
       simp only [nU]
       refine List.forall_mem_cons.2 ⟨?_,ih ys ss fun x q=>i x (by simp [q])⟩
       have:=i t (by simp)
       split<;>omega
   exact u _ _ _ (fun s g=>(fN h.2 s g).2) s g
 ·rw [pd l.2.1 j]; omega
theorem lX {ds d:List Int}(e:ds.length≤d.length)(a:d.length≤6){j:Nat}(b:j<ds.length):aH (aH ((d.length:Int) - (ds.length:Int))+(j:Int))=((d.length - ds.length+j:Nat):Int)∧ix d ((d.length - ds.length+j:Nat):Int)=ix (d.drop (d.length - ds.length)) (j:Int):=by
 refine ⟨by rw [bA (n:=(d.length:Int) - ds.length) (by omega) (by omega),bA (by omega) (by omega)]; omega,?_⟩
 rw [bU (by omega),bU (by simp; omega)]
 simp
theorem wS {ds d:List Int}(e:ds.length≤d.length){j:Nat}(b:j<ds.length):ix (jy ds d) ((d.length - ds.length+j:Nat):Int)=if ix ds (j:Int)=ix (d.drop (d.length - ds.length)) (j:Int) then ix (eH ds) (j:Int) else 0:=by
 have a:(d.drop (d.length - ds.length)).length=ds.length:=by simp; omega
 rw [← wO a (dE ds) b,bU (by simp only [jy,List.length_append,jY a (dE ds)]; simp [fO]; omega),bU (by rw [jY a (dE ds)]; omega)]
 simp only [jy]
 rw [List.getElem_append_right (by simp [fO])]
 simp [fO]
theorem nb {ds d:List Int}(h:dZ ds)(i:ds.length≤d.length){j:Nat}(g:j<ds.length) :
  (ix ds (j:Int)=ix (d.drop (d.length - ds.length)) (j:Int)→((jy ds d).take (d.length - ds.length+j)++(fO d.length).drop (d.length - ds.length+j)).set (d.length - ds.length+j) (ix (eH ds) (j:Int))=(jy ds d).take (d.length - ds.length+(j+1))++(fO d.length).drop (d.length - ds.length+(j+1))) ∧
  (ix ds (j:Int)≠ix (d.drop (d.length - ds.length)) (j:Int)→(jy ds d).take (d.length - ds.length+j)++(fO d.length).drop (d.length - ds.length+j)=(jy ds d).take (d.length - ds.length+(j+1))++(fO d.length).drop (d.length - ds.length+(j+1))):=by
 have a:(d.drop (d.length - ds.length)).length=ds.length:=by simp; omega
 have b:(jy ds d).length=(fO d.length).length:=by simp only [jy,List.length_append,jY a (dE ds)]; simp [fO]; omega
 have l:(fO d.length).length=d.length:=by simp [fO]
 have e:=wS i g
 constructor
 ·intro c
  rw [if_pos c] at e
  have:=sH b (j:=d.length - ds.length+j) (by omega)
  rw [e] at this
  exact this
 ·intro c
  rw [if_neg c] at e
  refine qf b (by omega) ?_
  rw [e,bU (by omega)]
  simp [fO]
theorem sN {ds d:List Int}(h:dZ ds)(q:d.length<bZ):Z00 (bT ds) d=some (if dZ d∧ds.length≤d.length∧lE ds (d.drop (d.length - ds.length))=true then ⟨d,jy ds d,0,pr ds⟩ else dQ):=by
 have O:=h.1
 have b:(bT ds).Dims=ds:=rfl
 have B:(bT ds).Strides=eH ds:=rfl
 have J:=dE ds
 unfold Z00
 rw [kk (iP h)]
 simp only [Option.bind_some,bP,Bool.not_true,Bool.not_false,cond_true,Bool.false_or,fX q]
 by_cases hd:dZ d
 ·have i:=hd.1
  simp only [hd,decide_true,Bool.not_true,Bool.false_or,b,true_and]
  by_cases hl:ds.length≤d.length
  ·rw [if_neg (by rw [bA (by omega) (by omega)]; simp; omega),hN (by omega)]
   simp only [Option.bind_some]
   rw [if_pos (by omega)]
   have g:(d.drop (d.length - ds.length)).length=ds.length:=by simp; omega
   have a:∀ j:Nat,j<ds.length→(ix ds (j:Int)=ix (d.drop (d.length - ds.length)) (j:Int)∨ix ds (j:Int)=1)→(fun s:List Int×Int=>Z00_L1 (bT ds) d s.1 s.2) ((jy ds d).take (d.length - ds.length+j)++(fO d.length).drop (d.length - ds.length+j),(j:Int))=some (.inl ((jy ds d).take (d.length - ds.length+(j+1))++(fO d.length).drop (d.length - ds.length+(j+1)),((j+1:Nat):Int))):=by
    intro j e G
    obtain ⟨l,u⟩:=lX (ds:=ds) hl i e
    obtain ⟨L,I⟩:=nb (d:=d) h hl e
    simp only [Z00_L1,Z00_J2,b,B,l,u]
    rw [if_pos (by simp; omega),if_pos (by omega),if_pos (by omega)]
    by_cases c:ix ds (j:Int)=ix (d.drop (d.length - ds.length)) (j:Int)
    ·rw [if_pos (by simp [c]),if_pos (by omega),if_pos (by simp; omega),Int.toNat_natCast,L c,bX (by unfold bZ; omega)]
     rfl
    ·rw [if_neg (by simp [c]),if_neg (by simp [G.resolve_left c]),I c,bX (by unfold bZ; omega)]
   have D:(List.replicate (d.length:Int).toNat (0:Int),(0:Int))=((jy ds d).take (d.length - ds.length+0)++(fO d.length).drop (d.length - ds.length+0),((0:Nat):Int)):=by
    simp only [jy,Nat.add_zero]
    rw [List.take_append_of_le_length (by simp [fO]),List.take_of_length_le (by simp [fO])]
    simp [fO]
   by_cases c:lE ds (d.drop (d.length - ds.length))=true
   ·have:=eT (f:=fun s:List Int×Int=>Z00_L1 (bT ds) d s.1 s.2) (r:=.inr (jy ds d)) (fun j=>((jy ds d).take (d.length - ds.length+j)++(fO d.length).drop (d.length - ds.length+j),(j:Int))) ds.length
     (fun j e=>a j e (qi g c e))
     (by
      simp only [Z00_L1,b]
      rw [if_neg (by simp),show d.length - ds.length+ds.length=d.length by omega,List.take_of_length_le (by simp only [jy,List.length_append,jY g (dE ds)]; simp [fO]; omega),List.drop_of_length_le (by simp [fO])]
      simp) D
    rw [this]
    simp [c,hl,Z00_J3]
    exact ⟨rfl,rfl⟩
   ·obtain ⟨m,g1,E,M,F⟩:=qk g (by simpa using c)
    have:=eT (f:=fun s:List Int×Int=>Z00_L1 (bT ds) d s.1 s.2) (r:=.inl dQ) (fun j=>((jy ds d).take (d.length - ds.length+j)++(fO d.length).drop (d.length - ds.length+j),(j:Int))) m
     (fun j e=>a j (by omega) (F j e))
     (by
      obtain ⟨l,u⟩:=lX (ds:=ds) hl i g1
      simp only [Z00_L1,b,l,u]
      rw [if_pos (by simp; omega),if_pos (by omega),if_pos (by omega),if_neg (by simp [E]),if_pos (by simp [M])]
      rfl) D
    rw [this]
    simp [c]
  ·rw [if_pos (by rw [bA (by unfold bZ at q; omega) (by unfold bZ at q; omega)]; simp; omega)]
   simp [hl,dQ]
 ·simp [hd,dQ]
theorem sO {ds d:List Int}(h:dZ ds)(I:d.length<bZ):Z2e (bT ds) d=some (if dZ d∧ds.length≤d.length∧lE ds (d.drop (d.length - ds.length))=true then ⟨d,jy ds d,0,pr ds⟩ else dQ):=by
 have T:=h.1
 have a:(bT ds).Dims=ds:=rfl
 have l:(bT ds).Strides=eH ds:=rfl
 have L:=dE ds
 unfold Z2e Z35
 rw [kl (iP h)]
 simp only [Option.bind_some,Bool.not_true,Bool.false_eq_true,if_false]
 rw [gF (by rw [a]; omega),gF (by rw [l]; omega)]
 simp only [Option.bind_some]
 unfold Z04
 rw [gS I]
 simp only [Option.bind_some]
 by_cases hd:dZ d
 ·have i:=hd.1
  simp only [hd,decide_true,Bool.not_true,Bool.false_or,a,true_and]
  by_cases hl:ds.length≤d.length
  ·rw [if_neg (by simp; omega),gF (by omega)]
   simp only [Option.bind_some]
   rw [if_pos (by omega)]
   have g:(d.drop (d.length - ds.length)).length=ds.length:=by simp; omega
   have b:∀ j:Nat,j<ds.length→(ix ds (j:Int)=ix (d.drop (d.length - ds.length)) (j:Int)∨ix ds (j:Int)=1)→(fun s:List Int×Int=>Z04_L1 ⟨ds,(bT ds).Strides,(bT ds).Offset,(bT ds).Base⟩ d (bT ds) d s.1 s.2) ((jy ds d).take (d.length - ds.length+j)++(fO d.length).drop (d.length - ds.length+j),(j:Int))=some (.inl ((jy ds d).take (d.length - ds.length+(j+1))++(fO d.length).drop (d.length - ds.length+(j+1)),((j+1:Nat):Int))):=by
    intro j e G
    obtain ⟨u,B⟩:=lX (ds:=ds) hl i e
    obtain ⟨M,J⟩:=nb (d:=d) h hl e
    simp only [Z04_L1,Z04_J2,a,l,u,B]
    rw [if_pos (by simp; omega),if_pos (by omega),if_pos (by omega)]
    by_cases c:ix ds (j:Int)=ix (d.drop (d.length - ds.length)) (j:Int)
    ·rw [if_pos (by simp [c]),if_pos (by omega),if_pos (by simp; omega),Int.toNat_natCast,M c,bX (by unfold bZ; omega)]
     rfl
    ·rw [if_neg (by simp [c]),if_neg (by simp [G.resolve_left c]),J c,bX (by unfold bZ; omega)]
   have D:(List.replicate (d.length:Int).toNat (0:Int),(0:Int))=((jy ds d).take (d.length - ds.length+0)++(fO d.length).drop (d.length - ds.length+0),((0:Nat):Int)):=by
    simp only [jy,Nat.add_zero]
    rw [List.take_append_of_le_length (by simp [fO]),List.take_of_length_le (by simp [fO])]
    simp [fO]
   by_cases c:lE ds (d.drop (d.length - ds.length))=true
   ·have:=eT (f:=fun s:List Int×Int=>Z04_L1 ⟨ds,(bT ds).Strides,(bT ds).Offset,(bT ds).Base⟩ d (bT ds) d s.1 s.2) (r:=.inr (jy ds d)) (fun j=>((jy ds d).take (d.length - ds.length+j)++(fO d.length).drop (d.length - ds.length+j),(j:Int))) ds.length
     (fun j e=>b j e (qi g c e))
     (by
      simp only [Z04_L1,a]
      rw [if_neg (by simp),show d.length - ds.length+ds.length=d.length by omega,List.take_of_length_le (by simp only [jy,List.length_append,jY g (dE ds)]; simp [fO]; omega),List.drop_of_length_le (by simp [fO])]
      simp) D
    rw [this,if_pos ⟨hl,c⟩]
    simp only [Option.bind_some,Z04_J3,bP,Bool.not_true,Bool.not_false,cond_true]
    rw [kl (v:=⟨d,jy ds d,(bT ds).Offset,(bT ds).Base⟩) (na h hd hl)]
    rfl
   ·obtain ⟨m,g1,E,O,F⟩:=qk g (by simpa using c)
    have:=eT (f:=fun s:List Int×Int=>Z04_L1 ⟨ds,(bT ds).Strides,(bT ds).Offset,(bT ds).Base⟩ d (bT ds) d s.1 s.2) (r:=.inl (false,⟨d,(jy ds d).take (d.length - ds.length+m)++(fO d.length).drop (d.length - ds.length+m),(bT ds).Offset,(bT ds).Base⟩)) (fun j=>((jy ds d).take (d.length - ds.length+j)++(fO d.length).drop (d.length - ds.length+j),(j:Int))) m
     (fun j e=>b j (by omega) (F j e))
     (by
      obtain ⟨u,B⟩:=lX (ds:=ds) hl i g1
      simp only [Z04_L1,a,u,B]
      rw [if_pos (by simp; omega),if_pos (by omega),if_pos (by omega),if_neg (by simp [E]),if_pos (by simp [O])]) D
    rw [this,if_neg (fun q=>c q.2)]
    simp [bP,dQ]
  ·rw [if_pos (by simp; omega),if_neg (fun q=>hl q.1)]
   simp [bP,dQ]
 ·simp [hd,bP,dQ]
theorem sP {v:View}(a:v.Dims.length<bZ)(h:¬ dZ v.Dims):Z8 v=some false:=by
 unfold Z8
 rw [fX a]
 simp [h]
theorem sQ {v:View}(a:v.Dims.length<bZ)(h:¬ dZ v.Dims):Zf v=some false:=by
 unfold Zf
 rw [gS a]
 simp [h]
def lF (ds:List Int)(a fr c st:Int):Prop:=0≤a∧a<(ds.length:Int)∧1≤c∧c≤4096∧1≤st∧st≤4096∧0≤fr∧fr<ix ds a∧fr+(c - 1)*st<ix ds a
instance (ds:List Int)(a fr c st:Int):Decidable (lF ds a fr c st):=by unfold lF; infer_instance
theorem wT {xs:List Int}{j:Nat}{a:Int}(h:j<xs.length):ix (xs.set j a) (j:Int)=a:=by rw [bU (by simpa using h)]; simp
theorem nD (f:Int→Int→Int){xs ys:List Int}{j:Nat}{a b:Int}(g:j<xs.length)(e:j<ys.length):zs f (xs.set j a) (ys.set j b)=zs f xs ys - f (ix xs (j:Int)) (ix ys (j:Int))+f a b:=by
 induction xs generalizing ys j with
 | nil=>simp at g
 | cons x xs ih=>cases ys with
  | nil=>simp at e
  | cons y ys=>cases j with
   | zero=>simp [zs,ix]; omega
   | succ j =>
    rw [dG,dG,List.set_cons_succ,List.set_cons_succ]
    simp only [zs,ih (ys:=ys) (j:=j) (by simpa using g) (by simpa using e)]
    omega
theorem wU {ds:List Int}(h:∀ d∈ds,1≤d){j:Nat}(g:j<ds.length){c:Int}(h1:1≤c)(h2:c≤ix ds (j:Int)):pr (ds.set j c)≤pr ds∧∀ d∈ds.set j c,1≤d:=by
 induction ds generalizing j with
 | nil=>simp at g
 | cons d ds ih =>
  have l:1≤pr ds:=fE fun x e=>h x (by simp [e])
  cases j with
  | zero =>
   have h2:c≤d:=h2
   refine ⟨Int.mul_le_mul_of_nonneg_right h2 (by omega),List.forall_mem_cons.2 ⟨h1,fun x e=>h x (by simp [e])⟩⟩
  | succ j =>
   rw [dG] at h2
   obtain ⟨a,b⟩:=ih (fun x e=>h x (by simp [e])) (by simpa using g) h2
   have i:=h d (by simp)
   exact ⟨Int.mul_le_mul_of_nonneg_left a (by omega),List.forall_mem_cons.2 ⟨i,b⟩⟩
theorem iM {xs:List Int}{j:Nat}{a:Int}{P:Int→Prop}(h:∀ x∈xs,P x)(e:P a):∀ x∈xs.set j a,P x:=by
 intro x b
 rcases List.mem_or_eq_of_mem_set b with b | rfl
 ·exact h x b
 ·exact e
theorem wV {ds:List Int}(h:dZ ds){j:Nat}(r:j<ds.length){fr c st:Int}(Z:1≤c)(D:0≤st)(O:0≤fr)(hl:fr+(c - 1)*st<ix ds (j:Int))(U:c≤ix ds (j:Int))(M:c=1→st=0) :
  VG (ds.set j c) ((eH ds).set j (ix (eH ds) (j:Int)*st)) (0+fr*ix (eH ds) (j:Int)) (pr ds):=by
 have hp:=h.2.pos
 have J:=h.2.2
 obtain ⟨q1,Y⟩:=wU h.2.1 r Z U
 have hm:=h.2.mem (bF r)
 have E:=dE ds
 have B:=fN h.2 _ (bF (xs:=eH ds) (k:=j) (by omega))
 obtain ⟨s,q⟩:∃ s,s=ix (eH ds) (j:Int):=⟨_,rfl⟩
 rw [← q] at B ⊢
 have l:∀ x∈eH ds,0≤x∧x≤4096:=fN h.2
 have F:=jN h.2
 have k0:0≤(c - 1)*st:=Int.mul_nonneg (by omega) D
 have k1:s*(fr+(c - 1)*st)≤s*(ix ds (j:Int) - 1):=Int.mul_le_mul_of_nonneg_left (by omega) B.1
 have k2:s*(fr+(c - 1)*st)=fr*s+s*st*(c - 1):=by rw [Int.mul_add,Int.mul_comm s fr,Int.mul_comm (c - 1) st,Int.mul_assoc]
 have I:0≤s*st:=Int.mul_nonneg B.1 D
 have k4:0≤fr*s:=Int.mul_nonneg O B.1
 have k5:=iL hm.1 B.1
 have k6:=iL Z I
 have z:=nD hw (xs:=ds) (ys:=eH ds) (a:=c) (b:=s*st) r (by omega)
 rw [← q,k5,k6] at z
 have k7:0≤s*st*(c - 1):=Int.mul_nonneg I (by omega)
 -- what the axis alone may come to
 have a1:s*(ix ds (j:Int) - 1)≤pr ds - 1:=by
  have hz:∀ (xs ys:List Int),(∀ d∈xs,1≤d)→(∀ y∈ys,0≤y)→∀ j:Nat,j<xs.length→j<ys.length→ix ys (j:Int)*(ix xs (j:Int) - 1)≤zs hw xs ys∧0≤zs hw xs ys:=by
   intro xs
   induction xs with
   | nil=>intro ys _ _ j r; simp at r
   | cons x xs ih =>
    intro ys i u j T G
    cases ys with
    | nil=>simp at G
    | cons y ys =>
     have e:=iL (i x (by simp)) (u y (by simp))
     have e0:=Int.mul_nonneg (u y (by simp)) (show 0≤x - 1 by have:=i x (by simp); omega)
     have nn:∀ (xs ys:List Int),(∀ d∈xs,1≤d)→(∀ y∈ys,0≤y)→0≤zs hw xs ys:=by
      intro xs
      induction xs with
      | nil=>intro ys _ _; simp [zs]
      | cons d ds ihh=>intro ss h1 h2; cases ss with
       | nil=>simp [zs]
       | cons s ss =>
        have:=ihh ss (fun x i=>h1 x (by simp [i])) (fun x i=>h2 x (by simp [i]))
        have h3:=iL (h1 d (by simp)) (h2 s (by simp))
        have h4:=Int.mul_nonneg (h2 s (by simp)) (show 0≤d - 1 by have:=h1 d (by simp); omega)
        simp only [zs]; omega
     have n1:=nn xs ys (fun d m=>i d (by simp [m])) (fun d m=>u d (by simp [m]))
     cases j with
     | zero =>
      simp only [zs,e]
      show y*(x - 1)≤_∧_
      omega
     | succ j =>
      rw [dG,dG]
      have:=ih ys (fun d m=>i d (by simp [m])) (fun d m=>u d (by simp [m])) j (by simpa using T) (by simpa using G)
      simp only [zs,e]
      omega
  have:=(hz ds (eH ds) h.2.1 (fun y u=>(l y u).1) j r (by omega)).1
  rw [F,← q] at this
  exact this
 have a0:s*st≤4096:=by
  by_cases g:c=1
  ·rw [M g]; omega
  ·have:s*st*1≤s*st*(c - 1):=Int.mul_le_mul_of_nonneg_left (by omega) I
   omega
 have L:SZ (ds.set j c):=⟨Y,by omega⟩
 refine ⟨⟨by simpa using h.1,L⟩,by simp [E],⟨hp,J⟩,⟨by omega,by omega⟩,?_,?_,by omega⟩
 ·exact iM (fun x i=>by have:=l x i; omega) (by omega)
 ·rw [pd Y (iM (fun x i=>(l x i).1) I)]; omega
def j6 (ds:List Int)(a fr c st:Int):View:=⟨ds.set a.toNat c,(eH ds).set a.toNat (if c=1 then 0 else ix (eH ds) a*st),fr*ix (eH ds) a,pr ds⟩
theorem uz {ds:List Int}{a fr c st:Int}(h:lF ds a fr c st):c≤ix ds a∧0≤(c - 1)*st∧(c - 1)*st≤4096*4096:=by
 obtain ⟨h1,h2,m,q,g,e,j,l,i⟩:=h
 have:=iK (a:=c - 1) (b:=st) (by omega) g
 have k:=Int.mul_le_mul (show c - 1≤4096 by omega) e (by omega) (show (0:Int)≤4096 by omega)
 exact ⟨by omega,by omega,k⟩
theorem nE {ds:List Int}(h:dZ ds){a fr c st:Int}(g:lF ds a fr c st):VG (j6 ds a fr c st).Dims (j6 ds a fr c st).Strides (j6 ds a fr c st).Offset (j6 ds a fr c st).Base:=by
 obtain ⟨m,u,r⟩:=uz g
 obtain ⟨h1,h2,l,D,B,s,i,E,q⟩:=g
 obtain ⟨j,rfl⟩:=Int.eq_ofNat_of_zero_le h1
 have b:fr+(c - 1)*(if c=1 then 0 else st)<ix ds (j:Int):=by
  split
  ·omega
  ·exact q
 have:=wV h (j:=j) (by omega) (fr:=fr) (c:=c) (st:=if c=1 then 0 else st) l (by split<;>omega) i b m (fun e=>by simp [e])
 have e:ix (eH ds) (j:Int)*(if c=1 then 0 else st)=if c=1 then 0 else ix (eH ds) (j:Int)*st:=by split<;>simp
 rw [e,Int.zero_add] at this
 exact this
theorem sS {ds:List Int}(h:dZ ds)(a:Int):Z28 (bT ds) a=some (decide (0≤a∧a<(ds.length:Int))):=by
 unfold Z28
 rw [kk (iP h)]
 simp only [Option.bind_some,Bool.true_and]
 congr 1
 rw [Bool.eq_iff_iff]
 simp [bT]
 exact fun _=>decide_eq_true_iff
theorem uA {ds:List Int}(h:dZ ds){a fr c st:Int}(s:1≤st):Z1a (bT ds) a fr c st=some (if lF ds a fr c st then j6 ds a fr c st else dQ):=by
 have hn:=h.1
 have M:=dE ds
 have b:(bT ds).Dims=ds:=rfl
 unfold Z1a
 rw [sS h]
 simp only [Option.bind_some,b]
 by_cases g:(0≤a∧a<(ds.length:Int))∧1≤c∧c≤4096∧st≤4096∧0≤fr
 ·obtain ⟨g1,G,L,B,F⟩:=g
  obtain ⟨j,rfl⟩:=Int.eq_ofNat_of_zero_le g1.1
  have I:j<ds.length:=by omega
  have hm:=h.2.mem (bF I)
  have i:=fN h.2 _ (bF (xs:=eH ds) (k:=j) (by omega))
  have m:(((((!decide (0≤(j:Int)∧(j:Int)<(ds.length:Int))||decide (c<1))||decide (c>4096))||decide (st < -4096))||decide (st>4096))||decide (fr<0))=false:=by simp; omega
  rw [if_pos (fun _=>g1),m,Bool.false_or]
  by_cases g6:fr<ix ds (j:Int)
  ·rw [if_neg (by simp; omega)]
   have Y:0≤(c - 1)*st:=Int.mul_nonneg (by omega) (by omega)
   have k1:=Int.mul_le_mul (show c - 1≤4096 by omega) B (by omega) (show (0:Int)≤4096 by omega)
   have e:aH (fr+aH (aH (c - 1)*st))=fr+(c - 1)*st:=by
    rw [bA (n:=c - 1) (by omega) (by omega),bA (n:=(c - 1)*st) (by omega) (by omega),bA (by omega) (by omega)]
   rw [e,if_pos (fun _=>g1)]
   by_cases g7:fr+(c - 1)*st<ix ds (j:Int)
   ·have E:lF ds (j:Int) fr c st:=⟨g1.1,g1.2,G,L,s,B,F,g6,g7⟩
    have J:=nE h E
    rw [if_neg (by simp; omega),if_pos E]
    unfold Z2a
    rw [hN (by rw [b]; omega),hN (by show (eH ds).length≤_; omega)]
    simp only [Option.bind_some,nm]
    have r:(bT ds).Strides=eH ds:=rfl
    have O:(bT ds).Offset=0:=rfl
    have u:(bT ds).Base=pr ds:=rfl
    simp only [r,O,u,b]
    rw [if_pos (by omega),if_pos (by omega)]
    have f1:0≤fr*ix (eH ds) (j:Int):=Int.mul_nonneg F i.1
    have Z:=Int.mul_le_mul (show fr≤4096 by omega) i.2 i.1 (show (0:Int)≤4096 by omega)
    have T:0≤ix (eH ds) (j:Int)*st:=Int.mul_nonneg i.1 (by omega)
    have U:=Int.mul_le_mul i.2 B (by omega) (show (0:Int)≤4096 by omega)
    rw [bA (n:=ix (eH ds) (j:Int)*st) (by omega) (by omega)]
    have l:∀ x:List Int,x=(j6 ds (j:Int) fr c st).Strides→Z1a_J1 (j:Int) fr c ⟨ds,eH ds,0,pr ds⟩ x=some (j6 ds (j:Int) fr c st):=by
     rintro x rfl
     have D:(⟨ds.set (j:Int).toNat c,(j6 ds (j:Int) fr c st).Strides,0+fr*ix (eH ds) (j:Int),pr ds⟩:View)=j6 ds (j:Int) fr c st:=by simp [j6]
     simp only [Z1a_J1]
     rw [bA (n:=fr*ix (eH ds) (j:Int)) (by omega) (by omega),bA (by omega) (by omega),D]
     unfold Z2b
     rw [kk J]
     rfl
    by_cases g8:c=1
    ·rw [if_pos (by simp [g8])]
     exact l _ (by simp [j6,g8])
    ·rw [if_neg (by simp [g8])]
     exact l _ (by simp [j6,g8])
   ·rw [if_pos (by simp; omega),if_neg (fun q=>g7 q.2.2.2.2.2.2.2.2)]
    rfl
  ·rw [if_pos (by simp; omega),if_neg (fun q=>g6 q.2.2.2.2.2.2.2.1)]
   rfl
 ·have m:(((((!decide (0≤a∧a<(ds.length:Int))||decide (c<1))||decide (c>4096))||decide (st < -4096))||decide (st>4096))||decide (fr<0))=true:=by
   simp only [Bool.or_eq_true,Bool.not_eq_true',decide_eq_true_eq,decide_eq_false_iff_not]
   omega
  rw [if_pos (fun q=>by rw [m] at q; cases q),m,if_pos (by simp),if_neg (fun q=>g ⟨⟨q.1,q.2.1⟩,q.2.2.1,q.2.2.2.1,q.2.2.2.2.2.1,q.2.2.2.2.2.2.1⟩)]
  rfl
theorem sT {v:View}{j:Nat}(e:j<v.Dims.length)(b:j<v.Strides.length)(a s:Int):Z0y v (j:Int) a s=some ⟨v.Dims.set j a,v.Strides.set j (if a=1 then 0 else s),v.Offset,v.Base⟩:=by
 unfold Z0y
 by_cases g:a=1
 ·rw [if_pos (by simp [g])]
  simp only [Z0y_J3]
  rw [if_pos (by omega),if_pos (by omega),if_pos g,Int.toNat_natCast]
 ·rw [if_neg (by simp [g])]
  simp only [Z0y_J3]
  rw [if_pos (by omega),if_pos (by omega),if_neg g,Int.toNat_natCast]
theorem uB {ds:List Int}(h:dZ ds){a fr c st:Int}(u:1≤st):Z2d (bT ds) a fr c st=some (if lF ds a fr c st then j6 ds a fr c st else dQ):=by
 have U:=h.1
 have I:=dE ds
 have i:(bT ds).Dims=ds:=rfl
 have s:(bT ds).Strides=eH ds:=rfl
 have J:(bT ds).Offset=0:=rfl
 have D:(bT ds).Base=pr ds:=rfl
 unfold Z2d Z34
 rw [kl (iP h)]
 simp only [Option.bind_some,Bool.not_true,Bool.false_eq_true,if_false]
 rw [gF (by rw [i]; omega),gF (by rw [s]; omega)]
 simp only [Option.bind_some,i,s,J,D]
 unfold Z1i
 simp only [Zk,Option.bind_some]
 have no:∀ (p:View) (z:Int),((bP (!(!((false,p,z):Bool×View×Int).1)) (Zf ((false,p,z):Bool×View×Int).2.1)).bind fun r32:Bool=>if ((!((false,p,z):Bool×View×Int).1)||(!r32))=true then some ((⟨[],[],0,0⟩:View),z) else some (p,z))=some (dQ,z):=by
  intro p z; simp [bP,dQ]
 by_cases g:(0≤a∧a<(ds.length:Int))∧1≤c∧c≤4096
 ·obtain ⟨g1,E,G⟩:=g
  obtain ⟨j,rfl⟩:=Int.eq_ofNat_of_zero_le g1.1
  have F:j<ds.length:=by omega
  have Y:=h.2.mem (bF F)
  have l:=fN h.2 _ (bF (xs:=eH ds) (k:=j) (by omega))
  rw [if_neg (by simp; omega),if_pos g1]
  by_cases g6:st≤4096∧0≤fr∧fr<ix ds (j:Int)
  ·rw [if_neg (by simp; omega)]
   have O:0≤(c - 1)*st:=Int.mul_nonneg (by omega) (by omega)
   have k1:=Int.mul_le_mul (show c - 1≤4096 by omega) g6.1 (by omega) (show (0:Int)≤4096 by omega)
   have e:aH (fr+aH (st*aH (c - 1)))=fr+(c - 1)*st:=by
    rw [bA (n:=c - 1) (by omega) (by omega),Int.mul_comm st,bA (n:=(c - 1)*st) (by omega) (by omega),bA (by omega) (by omega)]
   rw [e]
   have m:∀ z:Int,(z=if c=1 then 0 else st)→lF ds (j:Int) fr c st→Z1i_J3 ⟨ds,eH ds,0,pr ds⟩ (j:Int) c fr z=some (true,j6 ds (j:Int) fr c st,z):=by
    intro z B b
    have f1:0≤fr*ix (eH ds) (j:Int):=Int.mul_nonneg g6.2.1 l.1
    have T:=Int.mul_le_mul (show fr≤4096 by omega) l.2 l.1 (show (0:Int)≤4096 by omega)
    have L:0≤ix (eH ds) (j:Int)*z:=Int.mul_nonneg l.1 (by rw [B]; split<;>omega)
    have M:=Int.mul_le_mul l.2 (show z≤4096 by rw [B]; split<;>omega) (by rw [B]; split<;>omega) (show (0:Int)≤4096 by omega)
    simp only [Z1i_J3]
    rw [if_pos (by omega),bA (n:=fr*ix (eH ds) (j:Int)) (by omega) (by omega),bA (n:=0+fr*ix (eH ds) (j:Int)) (by omega) (by omega),bA (by omega) (by omega),sT (by simpa using F) (by simp; omega)]
    simp only [Option.bind_some,j6,Int.toNat_natCast,Int.zero_add]
    congr 5
    rw [B]; split<;>rfl
   have r:∀ z:Int,lF ds (j:Int) fr c st→((bP (!(!((true,j6 ds (j:Int) fr c st,z):Bool×View×Int).1)) (Zf ((true,j6 ds (j:Int) fr c st,z):Bool×View×Int).2.1)).bind fun r32:Bool=>if ((!((true,j6 ds (j:Int) fr c st,z):Bool×View×Int).1)||(!r32))=true then some ((⟨[],[],0,0⟩:View),z) else some (j6 ds (j:Int) fr c st,z))=some (j6 ds (j:Int) fr c st,z):=by
    intro z b
    simp only [bP,Bool.not_true,Bool.not_false,cond_true,Bool.false_or]
    rw [kl (nE h b)]
    rfl
   by_cases g8:c=1
   ·have b:lF ds (j:Int) fr c st:=⟨g1.1,g1.2,E,G,u,g6.1,g6.2.1,g6.2.2,by rw [g8]; omega⟩
    rw [if_neg (by simp; omega),m 0 (by simp [g8]) b]
    simp only [Option.bind_some]
    rw [r 0 b,if_pos b]
    rfl
   ·rw [if_pos (by simp; omega)]
    by_cases g7:fr+(c - 1)*st<ix ds (j:Int)
    ·have b:lF ds (j:Int) fr c st:=⟨g1.1,g1.2,E,G,u,g6.1,g6.2.1,g6.2.2,g7⟩
     rw [if_neg (by simp; omega),m st (by simp [g8]) b]
     simp only [Option.bind_some]
     rw [r st b,if_pos b]
     rfl
    ·rw [if_pos (by simp; omega),if_neg (fun q=>g7 q.2.2.2.2.2.2.2.2)]
     simp only [Option.bind_some]
     rw [no]
     rfl
  ·rw [if_pos (by simp; omega),if_neg (fun q=>g6 ⟨q.2.2.2.2.2.1,q.2.2.2.2.2.2.1,q.2.2.2.2.2.2.2.1⟩)]
   simp only [Option.bind_some]
   rw [no]
   rfl
 ·rw [if_pos (by simp; omega),if_neg (fun q=>g ⟨⟨q.1,q.2.1⟩,q.2.2.1,q.2.2.2.1⟩)]
  simp only [Option.bind_some]
  rw [no]
  rfl
def iU (ds:List Int)(a sz st:Int):Int:=(ix ds a - sz) / st+1
def fK (ds:List Int)(a sz st:Int):View:=⟨ds.set a.toNat (iU ds a sz st)++[sz],(eH ds).set a.toNat (if iU ds a sz st=1 then 0 else ix (eH ds) a*st)++[if sz=1 then 0 else ix (eH ds) a],0,pr ds⟩
def lG (ds:List Int)(a sz st:Int):Prop:=0≤a∧a<(ds.length:Int)∧1≤sz∧1≤st∧sz≤ix ds a
instance (ds:List Int)(a sz st:Int):Decidable (lG ds a sz st):=by unfold lG; infer_instance
theorem zE {xs ys:List Int}(a:∀ d∈xs,1≤d)(b:∀ y∈ys,0≤y):0≤zs hw xs ys:=by
 induction xs generalizing ys with
 | nil=>simp [zs]
 | cons d ds ih=>cases ys with
  | nil=>simp [zs]
  | cons s ss =>
   have:=ih (ys:=ss) (fun x h=>a x (by simp [h])) (fun x h=>b x (by simp [h]))
   have e:=iL (a d (by simp)) (b s (by simp))
   have g:=Int.mul_nonneg (b s (by simp)) (show 0≤d - 1 by have:=a d (by simp); omega)
   simp only [zs]; omega
theorem uC {ds:List Int}(h:dZ ds){j:Nat}(g:j<ds.length):ix (eH ds) (j:Int)*(ix ds (j:Int) - 1)≤pr ds - 1:=by
 have i:=dE ds
 have q:=h.2.mem (bF g)
 have m:=fN h.2 _ (bF (xs:=eH ds) (k:=j) (by omega))
 have z:=nD hw (xs:=ds) (ys:=eH ds) (a:=ix ds (j:Int)) (b:=0) g (by omega)
 have e:ds.set j (ix ds (j:Int))=ds:=by rw [bU g]; simp
 rw [e,Bc,iL q.1 m.1,jN h.2] at z
 have:=zE (xs:=ds) (ys:=(eH ds).set j 0) h.2.1 (iM (fun x l=>(fN h.2 x l).1) (by omega))
 omega
theorem nG {ds:List Int}{a sz st:Int}(h:lG ds a sz st):1≤iU ds a sz st∧iU ds a sz st≤ix ds a∧(iU ds a sz st - 1)*st≤ix ds a - sz:=by
 obtain ⟨h1,h2,g,j,i⟩:=h
 unfold iU
 have b:0≤(ix ds a - sz) / st:=Int.ediv_nonneg (by omega) (by omega)
 have e:(ix ds a - sz) / st≤ix ds a - sz:=Int.ediv_le_self _ (by omega)
 have a3:=Int.ediv_mul_le (ix ds a - sz) (show st≠0 by omega)
 refine ⟨by omega,by omega,?_⟩
 rw [show (ix ds a - sz) / st+1 - 1=(ix ds a - sz) / st by omega]
 exact a3
theorem pg {ds:List Int}(h:dZ ds){a sz st:Int}(B:lG ds a sz st)(G:dZ (fK ds a sz st).Dims):VG (fK ds a sz st).Dims (fK ds a sz st).Strides (fK ds a sz st).Offset (fK ds a sz st).Base:=by
 obtain ⟨O,n2,n3⟩:=nG B
 obtain ⟨h1,h2,U,h4,h5⟩:=B
 obtain ⟨j,rfl⟩:=Int.eq_ofNat_of_zero_le h1
 have I:j<ds.length:=by omega
 have l:=dE ds
 have hm:=h.2.mem (bF I)
 have u:=fN h.2 _ (bF (xs:=eH ds) (k:=j) (by omega))
 have ax:=uC h I
 have Z:=h.2.pos
 have J:=h.2.2
 have D:=jN h.2
 obtain ⟨n,L⟩:∃ n,n=iU ds (j:Int) sz st:=⟨_,rfl⟩
 obtain ⟨s,r⟩:∃ s,s=ix (eH ds) (j:Int):=⟨_,rfl⟩
 have T:(fK ds (j:Int) sz st).Dims=ds.set j n++[sz]:=by rw [L]; simp [fK]
 have e2:(fK ds (j:Int) sz st).Strides=(eH ds).set j (if n=1 then 0 else s*st)++[if sz=1 then 0 else s]:=by rw [L,r]; simp [fK]
 rw [← L] at O n2 n3
 rw [← r] at u ax
 rw [T] at G
 have k0:0≤(n - 1)*st:=Int.mul_nonneg (by omega) (by omega)
 have M:0≤s*st:=Int.mul_nonneg u.1 (by omega)
 have Y:s*((n - 1)*st)=s*st*(n - 1):=by rw [Int.mul_comm (n - 1) st,Int.mul_assoc]
 have k5:s*((n - 1)*st+(sz - 1))≤s*(ix ds (j:Int) - 1):=Int.mul_le_mul_of_nonneg_left (by omega) u.1
 rw [Int.mul_add,Y] at k5
 have k6:0≤s*(sz - 1):=Int.mul_nonneg u.1 (by omega)
 have k7:0≤s*st*(n - 1):=Int.mul_nonneg M (by omega)
 obtain ⟨i,m⟩:∃ i,i=if n=1 then 0 else s*st:=⟨_,rfl⟩
 obtain ⟨g,q⟩:∃ g,g=if sz=1 then 0 else s:=⟨_,rfl⟩
 have E:0≤i∧i≤4096∧i*(n - 1)=s*st*(n - 1):=by
  by_cases c:n=1
  ·rw [m,if_pos c,c]; simp
  ·rw [m,if_neg c]
   have:s*st*1≤s*st*(n - 1):=Int.mul_le_mul_of_nonneg_left (by omega) M
   omega
 have F:0≤g∧g≤4096∧g*(sz - 1)=s*(sz - 1):=by
  by_cases c:sz=1
  ·rw [q,if_pos c,c]; simp
  ·rw [q,if_neg c]; omega
 have z:=nD hw (xs:=ds) (ys:=eH ds) (a:=n) (b:=i) I (by omega)
 rw [← r,iL hm.1 u.1,iL O E.1,D,E.2.2] at z
 have z2:zs hw (ds.set j n++[sz]) ((eH ds).set j i++[g])=zs hw (ds.set j n) ((eH ds).set j i)+s*(sz - 1):=by
  rw [sM _ (by simp [l])]
  have:zs hw [sz] [g]=hw sz g:=by simp [zs]
  rw [this,iL U F.1,F.2.2]
 have nn:∀ x∈(eH ds).set j i++[g],0≤x∧x≤4096:=by
  intro x e
  rcases List.mem_append.1 e with e | e
  ·exact iM (fun x e=>fN h.2 x e) ⟨E.1,E.2.1⟩ x e
  ·have:x=g:=by simpa using e
   subst this; exact ⟨F.1,F.2.1⟩
 rw [T,e2,← m,← q]
 refine ⟨G,by simp [l],⟨Z,J⟩,⟨Int.le_refl 0,by show 0<pr ds; omega⟩,fun x e=>by have:=nn x e; omega,?_,?_⟩
 ·rw [pd G.2.1 fun x e=>(nn x e).1]; show (0:Int)≤0+0; decide
 ·show 0+_<pr ds
  omega
theorem qX {ds:List Int}(h:dZ ds){a sz st:Int}:Z09 (bT ds) a sz st=some (if lG ds a sz st∧dZ (fK ds a sz st).Dims then fK ds a sz st else dQ):=by
 have hn:=h.1
 have O:=dE ds
 have i:(bT ds).Dims=ds:=rfl
 have b:(bT ds).Strides=eH ds:=rfl
 have T:(bT ds).Offset=0:=rfl
 have m:(bT ds).Base=pr ds:=rfl
 unfold Z09
 rw [sS h]
 simp only [Option.bind_some,i,b]
 by_cases g:(0≤a∧a<(ds.length:Int))∧1≤sz∧1≤st
 ·obtain ⟨g1,E,J⟩:=g
  have l:((!decide (0≤a∧a<(ds.length:Int))||decide (sz<1))||decide (st<1))=false:=by simp; omega
  rw [if_pos (fun _=>g1),l,Bool.false_or]
  by_cases g6:sz≤ix ds a
  ·have s:lG ds a sz st:=⟨g1.1,g1.2,E,J,g6⟩
   obtain ⟨L,M,n3⟩:=nG s
   obtain ⟨j,rfl⟩:=Int.eq_ofNat_of_zero_le g1.1
   have F:j<ds.length:=by omega
   have hm:=h.2.mem (bF F)
   have B:=fN h.2 _ (bF (xs:=eH ds) (k:=j) (by omega))
   rw [if_neg (by simp; omega)]
   unfold Z2a
   rw [hN (by rw [i]; omega),hN (by rw [b]; omega)]
   simp only [Option.bind_some,nm,i,b,T,m]
   have e:aH (aH ((aH (ix ds (j:Int) - sz)).tdiv st)+1)=iU ds (j:Int) sz st:=by
    rw [bA (n:=ix ds (j:Int) - sz) (by omega) (by omega),Int.tdiv_eq_ediv_of_nonneg (by omega)]
    unfold iU at L M ⊢
    rw [bA (n:=(ix ds (j:Int) - sz) / st) (by omega) (by omega),bA (by omega) (by omega)]
   simp only [e]
   rw [if_pos (by omega),if_pos (by omega),if_pos (by omega),if_pos (by omega),if_pos (by omega)]
   have u:∀ x:List Int,x++[if sz=1 then 0 else ix (eH ds) (j:Int)]=(fK ds (j:Int) sz st).Strides→x.length=ds.length→Z09_J1 (bT ds) (j:Int) sz ⟨ds,eH ds,0,pr ds⟩ (ds.set (j:Int).toNat (iU ds (j:Int) sz st)) x=some (if lG ds (j:Int) sz st∧dZ (fK ds (j:Int) sz st).Dims then fK ds (j:Int) sz st else dQ):=by
    intro x G I
    have D:∀ y,y=(if sz=1 then 0 else ix (eH ds) (j:Int))→Z09_J2 sz ⟨ds,eH ds,0,pr ds⟩ (ds.set (j:Int).toNat (iU ds (j:Int) sz st)) x y=some (if lG ds (j:Int) sz st∧dZ (fK ds (j:Int) sz st).Dims then fK ds (j:Int) sz st else dQ):=by
     rintro y rfl
     simp only [Z09_J2]
     rw [if_pos (by simp; omega),G]
     have r:(⟨ds.set (j:Int).toNat (iU ds (j:Int) sz st)++[sz],(fK ds (j:Int) sz st).Strides,0,pr ds⟩:View)=fK ds (j:Int) sz st:=rfl
     rw [r]
     unfold Z2b
     by_cases q:dZ (fK ds (j:Int) sz st).Dims
     ·rw [kk (pg h s q),if_pos ⟨s,q⟩]
      rfl
     ·rw [sP (by simp [fK,bZ]; omega) q,if_neg (fun z=>q z.2)]
      rfl
    simp only [Z09_J1]
    rw [if_pos (by simp; omega)]
    by_cases q:sz=1
    ·rw [if_pos (by simp [q])]; exact D _ (by simp [q])
    ·rw [if_neg (by simp [q])]; exact D _ (by simp [q,b])
   by_cases q:iU ds (j:Int) sz st=1
   ·rw [if_neg (by simp; omega)]
    exact u _ (by simp [fK,q]) (by simp; omega)
   ·have k:(iU ds (j:Int) sz st - 1)*st≤4096:=by omega
    have Y:1*st≤(iU ds (j:Int) sz st - 1)*st:=Int.mul_le_mul_of_nonneg_right (by omega) (by omega)
    have Z:0≤ix (eH ds) (j:Int)*st:=Int.mul_nonneg B.1 (by omega)
    have U:=Int.mul_le_mul B.2 (show st≤4096 by omega) (by omega) (show (0:Int)≤4096 by omega)
    rw [if_pos (by simp; omega),bA (n:=ix (eH ds) (j:Int)*st) (by omega) (by omega),List.set_set]
    exact u _ (by simp [fK,q]) (by simp; omega)
  ·rw [if_pos (by simp; omega),if_neg (fun q=>g6 q.1.2.2.2.2)]
   rfl
 ·have l:((!decide (0≤a∧a<(ds.length:Int))||decide (sz<1))||decide (st<1))=true:=by
   simp only [Bool.or_eq_true,Bool.not_eq_true',decide_eq_true_eq,decide_eq_false_iff_not]
   omega
  rw [if_pos (fun q=>by rw [l] at q; cases q),l,if_pos (by simp),if_neg (fun q=>g ⟨⟨q.1.1,q.1.2.1⟩,q.1.2.2.1,q.1.2.2.2.1⟩)]
  rfl
theorem zF {v:View}(i:v.Dims.length≤6)(b:v.Strides.length=v.Dims.length)(a s:Int):Z2m v a s=some ⟨v.Dims++[a],v.Strides++[if a=1 then 0 else s],v.Offset,v.Base⟩:=by
 unfold Z2m
 rw [if_pos (by simp; omega),if_pos (by simp; omega)]
 have e:aH (((v.Dims++[(0:Int)]).length:Int) - 1)=(v.Dims.length:Int):=by
  have:((v.Dims++[(0:Int)]).length:Int)=v.Dims.length+1:=by simp
  rw [this,bA (by omega) (by omega)]; omega
 rw [e,sT (by simp) (by simp; omega)]
 simp only [Option.bind_some]
 have g:(v.Dims++[0]).set v.Dims.length a=v.Dims++[a]:=by rw [List.set_append_right _ _ (Nat.le_refl _)]; simp
 have h:∀ x:Int,(v.Strides++[0]).set v.Dims.length x=v.Strides++[x]:=by intro x; rw [← b,List.set_append_right _ _ (Nat.le_refl _)]; simp
 rw [g,h]
theorem qY {ds:List Int}(h:dZ ds){a sz st:Int}:Z2f (bT ds) a sz st=some (if lG ds a sz st∧dZ (fK ds a sz st).Dims then fK ds a sz st else dQ):=by
 have Z:=h.1
 have M:=dE ds
 have i:(bT ds).Dims=ds:=rfl
 have m:(bT ds).Strides=eH ds:=rfl
 have O:(bT ds).Offset=0:=rfl
 have r:(bT ds).Base=pr ds:=rfl
 unfold Z2f Z36
 rw [kl (iP h)]
 simp only [Option.bind_some,Bool.not_true,Bool.false_eq_true,if_false]
 rw [gF (by rw [i]; omega),gF (by rw [m]; omega)]
 simp only [Option.bind_some,i,m,O,r]
 unfold Z1j
 simp only [Zk,Option.bind_some]
 by_cases g:(0≤a∧a<(ds.length:Int))∧1≤sz∧1≤st
 ·obtain ⟨g1,I,T⟩:=g
  rw [if_pos (fun _=>g1)]
  by_cases g6:sz≤ix ds a
  ·have s:lG ds a sz st:=⟨g1.1,g1.2,I,T,g6⟩
   obtain ⟨J,L,n3⟩:=nG s
   obtain ⟨j,rfl⟩:=Int.eq_ofNat_of_zero_le g1.1
   have E:j<ds.length:=by omega
   have hm:=h.2.mem (bF E)
   have F:=fN h.2 _ (bF (xs:=eH ds) (k:=j) (by omega))
   rw [if_neg (by simp; omega),if_pos (by omega),if_pos g1,if_pos (by omega)]
   have e:aH (aH ((aH (ix ds (j:Int) - sz)).tdiv st)+1)=iU ds (j:Int) sz st:=by
    rw [bA (n:=ix ds (j:Int) - sz) (by omega) (by omega),Int.tdiv_eq_ediv_of_nonneg (by omega)]
    unfold iU at J L ⊢
    rw [bA (n:=(ix ds (j:Int) - sz) / st) (by omega) (by omega),bA (by omega) (by omega)]
   have D:∀ z:Int,(z=if iU ds (j:Int) sz st=1 then 0 else st)→Z1j_J3 ⟨ds,eH ds,0,pr ds⟩ (j:Int) sz st z=some (true,fK ds (j:Int) sz st,z):=by
    intro z u
    have b:0≤z∧z≤4096:=by
     by_cases q:iU ds (j:Int) sz st=1
     ·rw [u,if_pos q]; omega
     ·have k2:1*st≤(iU ds (j:Int) sz st - 1)*st:=Int.mul_le_mul_of_nonneg_right (by omega) (by omega)
      rw [u,if_neg q]; omega
    have U:0≤ix (eH ds) (j:Int)*z:=Int.mul_nonneg F.1 b.1
    have Y:=Int.mul_le_mul F.2 b.2 b.1 (show (0:Int)≤4096 by omega)
    simp only [Z1j_J3,e]
    rw [bA (by omega) (by omega),sT (by simpa using E) (by simp; omega)]
    simp only [Option.bind_some]
    rw [zF (by simp; omega) (by simp; omega)]
    simp only [Option.bind_some,fK,Int.toNat_natCast]
    congr 6
    rw [u]; split<;>rfl
   have l:∀ z:Int,(bP (!(!((true,fK ds (j:Int) sz st,z):Bool×View×Int).1)) (Zf ((true,fK ds (j:Int) sz st,z):Bool×View×Int).2.1)).bind (fun B:Bool=>if ((!((true,fK ds (j:Int) sz st,z):Bool×View×Int).1)||(!B))=true then some ((⟨[],[],0,0⟩:View),z) else some (fK ds (j:Int) sz st,z))=some ((if lG ds (j:Int) sz st∧dZ (fK ds (j:Int) sz st).Dims then fK ds (j:Int) sz st else dQ),z):=by
    intro z
    simp only [bP,Bool.not_true,Bool.not_false,cond_true,Bool.false_or]
    by_cases q:dZ (fK ds (j:Int) sz st).Dims
    ·rw [kl (pg h s q),if_pos ⟨s,q⟩]
     rfl
    ·rw [sQ (by simp [fK,bZ]; omega) q,if_neg (fun z=>q z.2)]
     rfl
   rw [e]
   by_cases q:iU ds (j:Int) sz st=1
   ·rw [if_pos (by simp [q]),D 0 (by simp [q])]
    simp only [Option.bind_some]
    rw [l]
    rfl
   ·rw [if_neg (by simp [q]),D st (by simp [q])]
    simp only [Option.bind_some]
    rw [l]
    rfl
  ·rw [if_pos (by simp; omega),if_neg (fun q=>g6 q.1.2.2.2.2)]
   simp [bP,dQ]
 ·have G:(((!(decide (a≥0)&&decide (a<(ds.length:Int))))||decide (sz<1))||decide (st<1))=true:=by
   simp only [Bool.or_eq_true,Bool.not_eq_true',decide_eq_true_eq,Bool.and_eq_false_iff,decide_eq_false_iff_not]
   omega
  rw [if_pos (fun q=>by rw [G] at q; cases q),G,if_pos (by simp),if_neg (fun q=>g ⟨⟨q.1.1,q.1.2.1⟩,q.1.2.2.1,q.1.2.2.2.1⟩)]
  simp [bP,dQ]
def NR (x:Int):Prop:=0≤x∧x<2147483647
instance (x:Int):Decidable (NR x):=by unfold NR; infer_instance
def RG (n:Nat)(x:List Int):Prop:=x.length=n∧∀ y∈x,NR y
theorem RG.set {n:Nat}{x:List Int}(h:RG n x){y:Int}(a:NR y)(k:Nat):RG n (x.set k y):=⟨by simp [h.1],iM h.2 a⟩
theorem RG.rep (n:Nat):RG n (List.replicate n 0):=⟨by simp,fun y a=>by rw [(List.mem_replicate.1 a).2]; decide⟩
theorem RG.ix {n:Nat}{x:List Int}(h:RG n x){i:Int}(a:0≤i)(h1:i<(n:Int)):NR (ix x i):=by
 obtain ⟨k,rfl⟩:=Int.eq_ofNat_of_zero_le a
 exact h.2 _ (bF (by have:=h.1; omega))
theorem kL {R:Type}{f:List Int×Int→Option ((List Int×Int)⊕R)}{Post:R→Prop}(m n:Nat)(h:∀ j:Nat,j<n→∀ x,RG m x→∃ x',f (x,(j:Int))=some (.inl (x',((j+1:Nat):Int)))∧RG m x')(l:∀ x,RG m x→∃ r,f (x,(n:Int))=some (.inr r)∧Post r){x:List Int}(g:RG m x):∃ r,aR f (x,0)=some r∧Post r :=
 hW (f:=f) (fun j s=>s.2=(j:Int)∧RG m s.1) n (fun j s e b=>by
  obtain ⟨x,i⟩:=s
  obtain ⟨rfl,a⟩:=b
  obtain ⟨x',h1,h2⟩:=h j e x a
  exact ⟨_,h1,rfl,h2⟩) (fun s b=>by
  obtain ⟨x,i⟩:=s
  obtain ⟨rfl,a⟩:=b
  exact l x a) (s:=(x,0)) ⟨rfl,g⟩
theorem jz (p:Int):∃ m,Zn p=some m∧NR m:=by
 have h1:=Int.tmod_lt_of_pos p (show (0:Int)<2147483647 by omega)
 have h2 : -2147483647<p.tmod 2147483647:=by
  rcases Int.le_total 0 p with h | h
  ·have:=Int.tmod_nonneg 2147483647 h; omega
  ·have e:p.tmod 2147483647 = -((-p).tmod 2147483647):=by rw [Int.neg_tmod]; omega
   have:=Int.tmod_lt_of_pos (-p) (show (0:Int)<2147483647 by omega)
   omega
 unfold Zn
 by_cases c:p.tmod 2147483647<0
 ·rw [if_pos (by simpa using c)]
  exact ⟨_,rfl,by rw [bA (by omega) (by omega)]; constructor<;>omega⟩
 ·rw [if_neg (by simpa using c)]
  exact ⟨_,rfl,by constructor<;>omega⟩
theorem jO (p:Int):∃ m,Z1e p=some m:=by
 obtain ⟨m,h,_⟩:=jz p
 unfold Z1e
 rw [h]
 simp only [Option.bind_some]
 split<;>exact ⟨_,rfl⟩
theorem nH (a b:Int):∃ m,Z1m a b=some m∧NR m:=by
 obtain ⟨x,h1,_⟩:=jz a
 obtain ⟨y,h2,_⟩:=jz b
 obtain ⟨z,e,g⟩:=jz (aH (x+y))
 exact ⟨z,by unfold Z1m; simp [h1,h2,e],g⟩
theorem ql (a b:Int):∃ m,Z27 a b=some m∧NR m:=by
 obtain ⟨x,h1,_⟩:=jz a
 obtain ⟨y,h2,_⟩:=jz b
 obtain ⟨z,e,g⟩:=jz (aH (x - y))
 exact ⟨z,by unfold Z27; simp [h1,h2,e],g⟩
theorem lY (a b:Int):∃ m,Z1f a b=some m∧NR m:=by
 obtain ⟨x,h1,_⟩:=jz a
 obtain ⟨y,h2,_⟩:=jz b
 obtain ⟨z,e,g⟩:=jz (aH (x*y))
 exact ⟨z,by unfold Z1f; simp [h1,h2,e],g⟩
theorem uD (a:Int):∀ (f:Nat) (n:Int),0≤n→n<2 ^ f→n≤1099511627776→∃ m,Zp_R (f+1) a n=some m∧NR m:=by
 intro f
 induction f with
 | zero =>
  intro n b h1 _
  have:n=0:=by simp at h1; omega
  subst this
  exact ⟨1,rfl,by decide⟩
 | succ f ih =>
  intro n b h1 q
  show ∃ m,Zp_S (Zp_R (f+1)) a n=some m∧NR m
  unfold Zp_S
  by_cases c:n=0
  ·rw [if_pos (by simp [c])]; exact ⟨1,rfl,by decide⟩
  ·rw [if_neg (by simp [c])]
   have e:n.tdiv 2=n / 2:=Int.tdiv_eq_ediv_of_nonneg b
   have h2:n / 2<2 ^ f:=by rw [Int.pow_succ] at h1; omega
   rw [e,bA (by omega) (by omega)]
   obtain ⟨x,g1,l⟩:=ih (n / 2) (by omega) h2 (by omega)
   obtain ⟨y,h,i⟩:=lY x x
   obtain ⟨z,j,g⟩:=lY y a
   rw [g1]
   simp only [Option.bind_some,h]
   split
   ·simp only [j,Option.bind_some]; exact ⟨z,rfl,g⟩
   ·exact ⟨y,rfl,i⟩
theorem qZ (a:Int):∃ m,Z26 a=some m∧NR m:=by
 obtain ⟨x,h1,_⟩:=jz a
 unfold Z26 Zp
 rw [h1]
 simp only [Option.bind_some]
 obtain ⟨y,h2,b⟩:=uD x 31 2147483645 (by omega) (by decide) (by omega)
 have mono:∀ f g:Nat,∀ n m,f≤g→Zp_R f x n=some m→Zp_R g x n=some m:=by
  intro f
  induction f with
  | zero=>intro g n m _ h; cases h
  | succ f ih =>
   intro g n m i h
   obtain ⟨g,rfl⟩:∃ k,g=k+1:=⟨g - 1,by omega⟩
   change Zp_S (Zp_R f) x n=some m at h
   show Zp_S (Zp_R g) x n=some m
   unfold Zp_S at h ⊢
   split
   ·rename_i c; rw [if_pos c] at h; exact h
   ·rename_i c
    rw [if_neg c] at h
    cases e:Zp_R f x (aH (n.tdiv 2)) with
    | none=>rw [e] at h; cases h
    | some r=>rw [e] at h; rw [ih g _ r (by omega) e]; exact h
 rw [mono 32 ns _ y (by decide) h2]
 exact ⟨y,rfl,b⟩
theorem wW {op x:Int}(a:NR x):∃ m,Z2x op x=some m∧NR m:=by
 unfold Z2x
 split
 ·obtain ⟨m,h1,h2⟩:=ql 0 x; rw [h1]; exact ⟨m,rfl,h2⟩
 ·split
  ·obtain ⟨m,h1,h2⟩:=qZ x; rw [h1]; exact ⟨m,rfl,h2⟩
  ·obtain ⟨m,h1⟩:=jO x
   rw [h1]
   simp only [Option.bind_some]
   split
   ·exact ⟨0,rfl,by decide⟩
   ·split
    ·exact ⟨1,rfl,by decide⟩
    ·exact ⟨x,rfl,a⟩
theorem wX {op x y:Int}(h1:1≤op)(h2:op≤3):∃ m,Z1n op x y=some m∧NR m:=by
 obtain ⟨a,g⟩:=jO x
 obtain ⟨b,i⟩:=jO y
 unfold Z1n
 rw [g,i]
 simp only [Option.bind_some]
 split
 ·obtain ⟨m,h1,h2⟩:=nH x y; rw [h1]; exact ⟨m,rfl,h2⟩
 ·split
  ·obtain ⟨m,h1,h2⟩:=ql x y; rw [h1]; exact ⟨m,rfl,h2⟩
  ·split
   ·obtain ⟨m,h1,h2⟩:=lY x y; rw [h1]; exact ⟨m,rfl,h2⟩
   ·rename_i j h e
    simp only [beq_iff_eq] at j h e
    omega
theorem gV {ds:List Int}{x:List Int}(h:dZ ds)(a:RG (pr ds).toNat x):TOk ds x:=⟨h,by have:=a.1; have:=h.2.pos; omega,fun y b=>a.2 y b⟩
theorem oG {ds:List Int}{x:List Int}(h:TOk ds x):RG (pr ds).toNat x:=⟨by have:=h.l; omega,fun y a=>h.x y a⟩
theorem km {ds x:List Int}(h:TOk ds x):x.length≤4096∧ds.length≤6:=⟨by have:=h.l; have:=h.d.2.2; omega,h.d.1⟩
def TT (t:Tensor):Prop:=TOk t.Dims t.Data
theorem ph {t:Tensor}(h:TT t):Zo t=some true:=by
 have:=km h
 rw [sD (by unfold bZ; omega) (by unfold bZ; omega),decide_eq_true (show TOk t.Dims t.Data from h)]
theorem zG {op:Int}{t:Tensor}(h:TT t)(h1:1≤op)(h2:op≤4):∃ d,Z12 op t=some ⟨t.Dims,d⟩∧TOk t.Dims d:=by
 have u:=km h
 unfold Z12
 rw [ph h]
 simp only [Option.bind_some]
 rw [if_neg (by simp; omega),kI h.d]
 simp only [Option.bind_some]
 have l:(pr t.Dims).toNat=t.Data.length:=(oG h).1.symm
 obtain ⟨r,e,g⟩:=kL (f:=fun s:List Int×Int=>Z12_L1 op t ⟨t.Dims,List.replicate (pr t.Dims).toNat 0⟩ s.1 s.2) (Post:=fun r=>RG (pr t.Dims).toNat r) (pr t.Dims).toNat t.Data.length
  (fun j q x a=>by
   obtain ⟨m,g1,b⟩:=wW (op:=op) ((oG h).ix (i:=(j:Int)) (by omega) (by omega))
   simp only [Z12_L1]
   rw [if_pos (by simp; omega),if_pos (by omega),g1]
   simp only [Option.bind_some]
   rw [if_pos (by simp; omega),bX (by unfold bZ; omega)]
   exact ⟨_,rfl,a.set b _⟩)
  (fun x a=>by simp only [Z12_L1]; rw [if_neg (by simp)]; exact ⟨x,rfl,a⟩) (RG.rep _)
 rw [e]
 exact ⟨r,rfl,gV h.d g⟩
theorem uE {ds:List Int}(h:dZ ds):Zx ds ds=some ds:=by
 have u:=h.1
 unfold Zx
 rw [fX (by unfold bZ; omega)]
 simp only [h,decide_true,Option.bind_some,bP,Bool.not_true,Bool.not_false,cond_true,Bool.or_self,Bool.false_eq_true,if_false]
 rw [if_neg (by simp)]
 unfold Zx_J1
 rw [if_pos (by omega)]
 have:=eT (f:=fun s:List Int×Int=>Zx_L1 ds ds (ds.length:Int) s.1 s.2) (r:=.inr ds) (fun j=>(List.replicate (ds.length - j) 0++ds.drop (ds.length - j),(j:Int))) ds.length
  (fun j q=>by
   obtain ⟨i,l⟩:∃ i,i=ds.length - (j+1):=⟨_,rfl⟩
   have m:ds.length - j=i+1:=by omega
   have a:i<ds.length:=by omega
   have b:aH (aH ((ds.length:Int) - 1) - (j:Int))=(i:Int):=by rw [bA (n:=(ds.length:Int) - 1) (by omega) (by omega),bA (by omega) (by omega)]; omega
   have g:Z29 ds (j:Int)=some (ix ds (i:Int)):=by
    unfold Z29
    rw [if_neg (by simp; omega),b,if_pos (by omega)]
   simp only [Zx_L1]
   rw [if_pos (by simp; omega),g]
   simp only [Option.bind_some]
   rw [if_neg (by simp),if_neg (by simp)]
   simp only [Zx_J3,b]
   rw [if_pos (by simp; omega),bX (by unfold bZ; omega),m,← l,Int.toNat_natCast]
   congr 3
   have e:ds.drop i=ix ds (i:Int)::ds.drop (i+1):=by rw [List.drop_eq_getElem_cons a,bU a]
   rw [e,List.replicate_succ',List.set_append_left _ _ (by simp),List.set_append_right _ _ (by simp)]
   simp)
  (by simp only [Zx_L1,Nat.sub_self,List.replicate_zero,List.drop_zero,List.nil_append]; rw [if_neg (by simp)])
  (s:=(List.replicate (ds.length:Int).toNat 0,0)) (by simp)
 rw [this]
 simp only [Option.bind_some,Zx_J4]
 rw [fX (by unfold bZ; omega)]
 simp [h]
theorem nc {t:Tensor}{is:List Int}(h:TT t)(a:IV t.Dims is):∃ x,Z06 t is=some x:=by
 have m:=km h
 have b:=a.len
 unfold Z06
 have:=eT (f:=fun s:List Int×Int=>Z06_L1 t is s.1 s.2) (r:=is) (fun j=>(is.take j,(j:Int))) t.Dims.length
  (fun j l=>by
   have i:=a.mem (j:=j) (by omega)
   have e:aH (aH ((is.length:Int) - (t.Dims.length:Int))+(j:Int))=(j:Int):=by rw [bA (n:=(is.length:Int) - (t.Dims.length:Int)) (by omega) (by omega),bA (by omega) (by omega)]; omega
   simp only [Z06_L1,Z06_J2,e]
   rw [if_pos (by simp; omega),if_pos (by omega),if_pos (by omega),bX (by unfold bZ; omega)]
   have tk:is.take (j+1)=is.take j++[ix is (j:Int)]:=by rw [List.take_succ_eq_append_getElem (by omega),bU (by omega)]
   by_cases c:ix t.Dims (j:Int)=1
   ·rw [if_pos (by simp [c]),if_pos (by simp; omega),tk,show ix is (j:Int)=0 by omega]
   ·rw [if_neg (by simp [c]),if_pos (by simp; omega),tk])
  (by simp only [Z06_L1]; rw [if_neg (by simp),List.take_of_length_le (by omega)])
  (s:=([],0)) rfl
 rw [this]
 simp only [Option.bind_some,Z06_J3]
 obtain ⟨x,g,_⟩:=n6 h a
 rw [g]
 exact ⟨x,rfl⟩
theorem zH {op:Int}{t u:Tensor}(e:TT t)(h:TT u)(l:t.Dims=u.Dims)(h1:1≤op)(h2:op≤3):∃ d,Z13 op t u=some ⟨t.Dims,d⟩∧TOk t.Dims d:=by
 have J:=km e
 have I:=e.d.2.2
 unfold Z13
 rw [ph e,ph h]
 simp only [Option.bind_some,bP,Bool.not_true,Bool.not_false,cond_true]
 rw [if_neg (by simp; omega),← l,uE e.d]
 simp only [Option.bind_some]
 rw [if_neg (by simp),kI e.d]
 simp only [Option.bind_some]
 obtain ⟨r,E,F⟩:=kL (f:=fun s:List Int×Int=>Z13_L1 op t u t.Dims ⟨t.Dims,List.replicate (pr t.Dims).toNat 0⟩ s.1 s.2) (Post:=fun r=>RG (pr t.Dims).toNat r) (pr t.Dims).toNat (pr t.Dims).toNat
  (fun j G x g=>by
   have i:=gU e.d.2.1 (j:Int)
   obtain ⟨a,B⟩:=nc e i
   obtain ⟨b,D⟩:=nc h (by rw [← l]; exact i)
   obtain ⟨m,g1,q⟩:=wX (op:=op) (x:=a) (y:=b) h1 h2
   simp only [Z13_L1]
   rw [if_pos (by simp; omega),jr e.d (by omega) (by omega)]
   simp only [Option.bind_some,B,D,g1]
   rw [if_pos (by simp; omega),bX (by unfold bZ; omega)]
   exact ⟨_,rfl,g.set q _⟩)
  (fun x g=>by simp only [Z13_L1]; rw [if_neg (by simp)]; exact ⟨x,rfl,g⟩) (RG.rep _)
 rw [E]
 exact ⟨r,rfl,gV e.d F⟩
theorem wY {ds:List Int}(l:ds.length<bZ):(dZ ds→∃ d,Z0q ds 0=some ⟨ds,d⟩∧TOk ds d)∧(¬ dZ ds→Z0q ds 0=some ⟨[],[]⟩):=by
 unfold Z0q
 rw [fX l]
 constructor
 ·intro h
  have u:=h.2.2
  simp only [h,decide_true,Option.bind_some,Bool.not_true,Bool.false_eq_true,if_false]
  rw [kI h]
  simp only [Option.bind_some]
  obtain ⟨m,e,a⟩:=jz 0
  obtain ⟨r,g,i⟩:=kL (f:=fun s:List Int×Int=>Z0q_L1 0 ⟨ds,List.replicate (pr ds).toNat 0⟩ s.1 s.2) (Post:=fun r=>RG (pr ds).toNat r) (pr ds).toNat (pr ds).toNat
   (fun j q x b=>by
    simp only [Z0q_L1]
    rw [if_pos (by simp; omega),e]
    simp only [Option.bind_some]
    rw [if_pos (by simp; omega),bX (by unfold bZ; omega)]
    exact ⟨_,rfl,b.set a _⟩)
   (fun x b=>by simp only [Z0q_L1]; rw [if_neg (by simp)]; exact ⟨x,rfl,b⟩) (RG.rep _)
  rw [g]
  exact ⟨r,rfl,gV h i⟩
 ·intro h
  simp [h]
theorem uF (ds ss:List Int)(a:Int):(n8 ds ss a).length=(pr ds).toNat:=by simp [n8]
theorem nI {t:Tensor}{v:View}(g:TT t)(a:VG v.Dims v.Strides v.Offset v.Base)(M:v.Base=pr t.Dims):∃ d,Zz t v=some ⟨v.Dims,d⟩∧TOk v.Dims d:=by
 have U:=km g
 have O:=a.d.1
 have T:=a.d.2.2
 have E:=g.l
 unfold Zz
 rw [ph g,kk a]
 simp only [Option.bind_some,bP,Bool.not_true,Bool.not_false,cond_true]
 rw [if_neg (by simp; omega),hN (by omega),qe a.d a.l a.s (by have:=a.o; have:=a.b; omega)]
 simp only [Option.bind_some]
 have D:=uF v.Dims v.Strides v.Offset
 obtain ⟨r,I,J⟩:=hW (f:=fun s:List Int×Int=>Zz_L1 t (n8 v.Dims v.Strides v.Offset) s.1 s.2) (fun j s=>s.2=(j:Int)∧RG j s.1) (pr v.Dims).toNat (Post:=fun r=>RG (pr v.Dims).toNat r)
  (fun j s L B=>by
   obtain ⟨x,i⟩:=s
   obtain ⟨e,m⟩:=B
   simp only at e
   subst e
   have G:0≤ix (n8 v.Dims v.Strides v.Offset) (j:Int)∧ix (n8 v.Dims v.Strides v.Offset) (j:Int)<v.Base:=by
    have:=bF (xs:=n8 v.Dims v.Strides v.Offset) (k:=j) (by omega)
    obtain ⟨k,_,F⟩:=List.mem_map.1 this
    rw [← F]
    exact a.place (gU a.d.2.1 (k:Int))
   have u:=(oG g).ix G.1 (by have:=(oG g).1; omega)
   have q:x.length=j:=m.1
   simp only [Zz_L1]
   rw [if_pos (by simp; omega),if_pos (by omega),if_pos (by omega),if_pos (by simp; omega),bX (by unfold bZ; omega)]
   refine ⟨_,rfl,rfl,by simp [q],?_⟩
   intro y h
   rcases List.mem_append.1 h with h | h
   ·exact m.2 y h
   ·rw [List.mem_singleton.1 h]; exact u)
  (fun s B=>by
   obtain ⟨x,i⟩:=s
   obtain ⟨e,m⟩:=B
   simp only at e
   subst e
   simp only [Zz_L1]
   rw [if_neg (by simp; omega)]
   exact ⟨x,rfl,m⟩) (s:=([],0)) ⟨rfl,rfl,by simp⟩
 rw [I]
 exact ⟨r,rfl,gV a.d J⟩
theorem lZ {t:Tensor}(a:TT t):Zz t dQ=some ⟨[],[]⟩:=by
 unfold Zz
 rw [ph a]
 simp only [Option.bind_some,bP,Bool.not_true,Bool.not_false,cond_true]
 rw [show Z8 dQ=some false from uv]
 simp
theorem r0 {ds d:List Int}(h:dZ ds)(D:d.length<bZ):Z07 (bT ds) d=some (if dZ d∧pr d=pr ds then bT d else dQ):=by
 have hn:=h.1
 have hp:=h.2.2
 have F:=h.2.pos
 have q:(bT ds).Dims=ds:=rfl
 have B:(bT ds).Base=pr ds:=rfl
 unfold Z07
 rw [kk (iP h)]
 simp only [Option.bind_some,bP,Bool.not_true,Bool.not_false,cond_true,Bool.false_or,fX D]
 by_cases hd:dZ d
 ·have E:=hd.1
  have O:=hd.2.pos
  simp only [hd,decide_true,Bool.not_true,Bool.not_false,cond_true,Bool.false_or,true_and,q,Option.bind_some]
  rw [jp D,if_pos hd.2,jp (by unfold bZ; omega),if_pos h.2]
  simp only [Option.bind_some]
  by_cases e:pr d=pr ds
  ·rw [if_neg (by simp [e]),if_pos e,qe (iP h).d (iP h).l (iP h).s ⟨Int.le_refl 0,by show (0:Int)≤4096; omega⟩,hN (by omega)]
   simp only [Option.bind_some]
   have b:n8 (bT ds).Dims (bT ds).Strides (bT ds).Offset=(List.range (pr ds).toNat).map fun k:Nat=>(k:Int):=n9 h.2
   obtain ⟨a,L⟩:∃ a,a=n8 (bT ds).Dims (bT ds).Strides (bT ds).Offset:=⟨_,rfl⟩
   rw [← L] at b ⊢
   have T:a.length=(pr ds).toNat:=by rw [b]; simp
   have u:∀ i:Int,0≤i→i<pr ds→ix a i=i:=by
    intro i M h1
    obtain ⟨k,rfl⟩:=Int.eq_ofNat_of_zero_le M
    rw [bU (by omega)]
    simp [b]
   rw [if_pos (by omega)]
   have:=eT (f:=fun s:List Int×Int=>Z07_L1 d a s.1 s.2) (r:=eH d) (fun j=>((eH d).take j,(j:Int))) d.length
    (fun j m=>by
     have I:=dE d
     have hm:=hd.2.mem (bF m)
     have tk:(eH d).take (j+1)=(eH d).take j++[if ix d (j:Int)>1 then pr (d.drop (j+1)) else 0]:=by rw [List.take_succ_eq_append_getElem (by omega),← pb m,bU (by omega)]
     simp only [Z07_L1,Z07_J2]
     rw [if_pos (by simp; omega),if_pos (by omega)]
     by_cases c:ix d (j:Int)>1
     ·have Z:=(hd.2.drop (j+1)).pos
      have U:pr (d.drop j)=ix d (j:Int)*pr (d.drop (j+1)):=by
       have:d.drop j=ix d (j:Int)::d.drop (j+1):=by rw [List.drop_eq_getElem_cons m,bU m]
       rw [this]; rfl
      have G:=gE d j
      have J:=(hd.2.take j).pos
      have q5:pr (d.drop j)≤pr d:=by rw [G]; exact jl J (by have:=(hd.2.drop j).pos; omega)
      have Y:2*pr (d.drop (j+1))≤ix d (j:Int)*pr (d.drop (j+1)):=Int.mul_le_mul_of_nonneg_right (by omega) (by omega)
      rw [if_pos (by simpa using c),bX (by unfold bZ; omega),if_pos (by omega),hD,Int.toNat_natCast,jp (by simp [bZ]; omega),if_pos (hd.2.drop (j+1))]
      simp only [Option.bind_some]
      rw [if_pos (by omega),if_pos (by simp; omega),u _ (by omega) (by omega),u 0 (by omega) (by omega),tk,if_pos c,bA (by omega) (by omega),Int.sub_zero]
     ·rw [if_neg (by simpa using c),if_pos (by simp; omega),bX (by unfold bZ; omega),tk,if_neg c])
    (by simp only [Z07_L1]; rw [if_neg (by simp),List.take_of_length_le (by rw [dE]; omega)])
    (s:=([],0)) rfl
   rw [this]
   simp only [Option.bind_some,Z07_J3]
   have hw:(⟨d,eH d,ix a 0,(bT ds).Base⟩:View)=bT d:=by rw [u 0 (by omega) (by omega),B,← e]; rfl
   rw [hw,kk (iP hd)]
   simp only [Option.bind_some,bP,Bool.not_true,Bool.not_false,cond_true]
   rw [qe (iP hd).d (iP hd).l (iP hd).s ⟨Int.le_refl 0,by show (0:Int)≤4096; omega⟩]
   simp only [Option.bind_some]
   have g:n8 (bT d).Dims (bT d).Strides (bT d).Offset=a:=by rw [b,← e]; exact n9 hd.2
   rw [g,sE (by unfold bZ; omega)]
   simp
  ·rw [if_pos (by simp [e]),if_neg e]
   rfl
 ·simp [hd,dQ]
theorem mC {n:Node}{ds:List Int}(h:dZ ds)(l:n.Dims.length<bZ):∃ ps,Z10 n ds=some (if dZ n.Dims∧pr n.Dims=pr ds then (n.Dims,ps,true) else ([],[],false)):=by
 have q:=h.1
 have u:=h.2.2
 unfold Z10
 rw [gS l]
 by_cases hd:dZ n.Dims
 ·simp only [hd,decide_true,Option.bind_some,bP,Bool.not_true,Bool.not_false,cond_true,Bool.false_or,true_and]
  rw [l5 l hd.2,l5 (by unfold bZ; omega) h.2]
  simp only [Option.bind_some]
  by_cases e:pr n.Dims=pr ds
  ·rw [if_neg (by simp [e])]
   obtain ⟨r,m,_⟩:=hW (f:=fun s:List pair×Int=>Z10_L1 (pr ds) s.1 s.2) (fun j s=>s.2=(j:Int)∧s.1.length=j) (pr ds).toNat (Post:=fun _=>True)
    (fun j s B g=>by
     obtain ⟨x,i⟩:=s
     obtain ⟨a,b⟩:=g
     simp only at a b
     subst a
     simp only [Z10_L1]
     rw [if_pos (by simp; omega),if_pos (by simp; omega),bX (by unfold bZ; omega)]
     exact ⟨_,rfl,rfl,by simp [b]⟩)
    (fun s g=>by
     obtain ⟨x,i⟩:=s
     obtain ⟨a,b⟩:=g
     simp only at a
     subst a
     have:=h.2.pos
     simp only [Z10_L1]
     rw [if_neg (by simp; omega)]
     exact ⟨x,rfl,trivial⟩) (s:=([],0)) ⟨rfl,rfl⟩
   rw [m]
   exact ⟨r,by rw [if_pos e]; rfl⟩
  ·rw [if_pos (by simp [e])]
   exact ⟨[],by rw [if_neg e]⟩
 ·simp [hd,bP]
end Go.Proofs.YtmpnollfdpdipaaGreat
