import Derived.Test.YtmpnollfdpdipaaGreatGkF
import Derived.Test.YtmpnollfdpdipaaGreatPL1
set_option linter.unusedVariables false
set_option linter.unusedSimpArgs false
namespace Go.Proofs.YtmpnollfdpdipaaGreat
open Go Go.Pg
theorem mul_ge {a b:Int}(ha:0≤a)(hb:1≤b):a≤a*b:=by
 have:=Int.mul_le_mul_of_nonneg_left hb ha
 simpa using this
theorem mul_ge' {a b:Int}(ha:1≤a)(hb:0≤b):b≤a*b:=by rw [Int.mul_comm]; exact mul_ge hb ha
def pr:List Int→Int
 | []=>1
 | d::ds=>d*pr ds
def SZ (ds:List Int):Prop:=(∀ d∈ds,1≤d)∧pr ds≤4096
instance (ds:List Int):Decidable (SZ ds):=by unfold SZ; infer_instance
def OKD (ds:List Int):Prop:=ds.length≤6∧SZ ds
instance (ds:List Int):Decidable (OKD ds):=by unfold OKD; infer_instance
theorem pr_pos {ds:List Int}(h:∀ d∈ds,1≤d):1≤pr ds:=by
 induction ds with
 | nil=>exact Int.le_refl 1
 | cons d ds ih =>
  have h1:=h d (by simp)
  have h2:=ih fun x hx=>h x (by simp [hx])
  exact Int.le_trans h1 (mul_ge (by omega) h2)
theorem pr_app (a b:List Int):pr (a++b)=pr a*pr b:=by
 induction a with
 | nil=>simp [pr]
 | cons x a ih=>simp [pr,ih,Int.mul_assoc]
theorem pr_take_drop (ds:List Int)(k:Nat):pr ds=pr (ds.take k)*pr (ds.drop k):=by
 rw [← pr_app,List.take_append_drop]
theorem SZ.take {ds:List Int}(h:SZ ds)(k:Nat):SZ (ds.take k):=by
 refine ⟨fun d hd=>h.1 d (List.mem_of_mem_take hd),?_⟩
 have h1:=h.2
 rw [pr_take_drop ds k] at h1
 have h2:1≤pr (ds.drop k):=pr_pos fun d hd=>h.1 d (List.mem_of_mem_drop hd)
 have h3:1≤pr (ds.take k):=pr_pos fun d hd=>h.1 d (List.mem_of_mem_take hd)
 exact Int.le_trans (mul_ge (by omega) h2) h1
theorem SZ.drop {ds:List Int}(h:SZ ds)(k:Nat):SZ (ds.drop k):=by
 refine ⟨fun d hd=>h.1 d (List.mem_of_mem_drop hd),?_⟩
 have h1:=h.2
 rw [pr_take_drop ds k] at h1
 have h2:1≤pr (ds.drop k):=pr_pos fun d hd=>h.1 d (List.mem_of_mem_drop hd)
 have h3:1≤pr (ds.take k):=pr_pos fun d hd=>h.1 d (List.mem_of_mem_take hd)
 exact Int.le_trans (mul_ge' h3 (by omega)) h1
theorem SZ.tail {d:Int}{ds:List Int}(h:SZ (d::ds)):SZ ds:=h.drop 1
theorem SZ.pos {ds:List Int}(h:SZ ds):1≤pr ds:=pr_pos h.1
theorem SZ.mem {ds:List Int}(h:SZ ds){d:Int}(hd:d∈ds):1≤d∧d≤4096:=by
 refine ⟨h.1 d hd,?_⟩
 obtain ⟨a,b,rfl⟩:=List.append_of_mem hd
 have h2:=h.2
 rw [pr_app] at h2
 have ha:1≤pr a:=pr_pos fun x hx=>h.1 x (by simp [hx])
 have hb:1≤pr b:=pr_pos fun x hx=>h.1 x (by simp [hx])
 have hd1:=h.1 d hd
 have e1:d≤pr (d::b):=mul_ge (by omega) hb
 exact Int.le_trans (Int.le_trans e1 (mul_ge' ha (by omega))) h2
theorem goI_pr {R:Type}(bad:R)(fin:Int→R)(ds:List Int)(k:Nat)(n:Int)(h0:1≤n)(h1:n≤4096) :
  goI (fun (s:Int) (_:Nat) (x:Int)=>if (decide (x<1)||decide (x>4096))=true then .inr bad else if decide (s*x>4096)=true then .inr bad else .inl (s*x)) fin ds k n
   = if (∀ d∈ds,1≤d)∧n*pr ds≤4096 then fin (n*pr ds) else bad:=by
 induction ds generalizing n k with
 | nil=>simp [goI,pr,h1]
 | cons d ds ih =>
  unfold goI
  by_cases c1:d<1
  ·have hno:¬ ((∀ x∈d::ds,1≤x)∧n*pr (d::ds)≤4096):=fun ⟨a,_⟩=>by have:=a d (by simp); omega
   rw [if_neg hno]
   simp [c1]
  ·have big:d>4096∨n*d>4096→¬ ((∀ x∈d::ds,1≤x)∧n*pr (d::ds)≤4096):=by
    rintro hb ⟨a,b⟩
    have hp:1≤pr ds:=pr_pos fun x hx=>a x (by simp [hx])
    have e:n*pr (d::ds)=n*d*pr ds:=by simp [pr,Int.mul_assoc]
    rw [e] at b
    have h2:d≤n*d:=mul_ge' h0 (by omega)
    have h3:n*d≤n*d*pr ds:=mul_ge (by omega) hp
    rcases hb with hb | hb<;>omega
   by_cases c2:d>4096
   ·rw [if_neg (big (.inl c2))]; simp [c2]
   ·by_cases c3:n*d>4096
    ·rw [if_neg (big (.inr c3))]; simp [c1,c2,c3]
    ·have hd:d≤n*d:=mul_ge' h0 (by omega)
     simp only [c1,c2,c3,decide_false,Bool.or_self,Bool.false_eq_true,if_false]
     rw [ih (k+1) (n*d) (by omega) (by omega)]
     have e:n*pr (d::ds)=n*d*pr ds:=by simp [pr,Int.mul_assoc]
     by_cases g:(∀ x∈ds,1≤x)∧n*d*pr ds≤4096
     ·rw [if_pos g,if_pos ⟨List.forall_mem_cons.2 ⟨by omega,g.1⟩,by rw [e]; exact g.2⟩,e]
     ·rw [if_neg g,if_neg fun a=>g ⟨fun x hx=>a.1 x (by simp [hx]),by rw [← e]; exact a.2⟩]
theorem goI_pr1 {R:Type}(fin:Int→R)(ds:List Int)(k:Nat)(n:Int):goI (fun (s:Int) (_:Nat) (x:Int)=>.inl (s*x)) fin ds k n=fin (n*pr ds):=by
 induction ds generalizing n k with
 | nil=>simp [goI,pr]
 | cons d ds ih =>
  unfold goI
  simp only
  rw [ih]
  simp [pr,Int.mul_assoc]
theorem w64_mul {a b:Int}(h0:0≤a)(h1:a≤65536)(h2:0≤b)(h3:b≤65536):w64 (a*b)=a*b:=by
 have h4:a*b≤65536*65536:=Int.mul_le_mul h1 h3 h2 (by omega)
 have h5:0≤a*b:=Int.mul_nonneg h0 h2
 exact w64_id (by omega) (by omega)
theorem size_s {ds:List Int}(hb:ds.length<big):Zt ds=some (if SZ ds then pr ds else 0):=by
 have:=loop_goI (S:=Int) ds (fun _ n=>1≤n∧n≤4096) (fun s:Int×Int=>Zt_L1 ds s.1 s.2) (fun n i=>(n,i)) (fun (s:Int) (_:Nat) (x:Int)=>if (decide (x<1)||decide (x>4096))=true then .inr (.inl (0:Int)) else if decide (s*x>4096)=true then .inr (.inl 0) else .inl (s*x)) (fun n=>.inr n)
  (fun n k hI hk=>by
   simp only [Zt_L1]
   rw [if_pos (by simp; omega),if_pos (by omega)]
   split
   ·rfl
   ·rename_i h
    simp only [Bool.or_eq_true,decide_eq_true_eq,not_or] at h
    rw [w64_mul (by omega) (by omega) (by omega) (by omega),w64k (by omega)]
    split<;>rfl)
  (fun n k s hI hk hs=>by
   split at hs
   ·cases hs
   ·rename_i h
    simp only [Bool.or_eq_true,decide_eq_true_eq,not_or] at h
    split at hs
    ·cases hs
    ·rename_i h2
     simp only [decide_eq_true_eq] at h2
     cases hs
     have:=mul_ge' (a:=n) (b:=ix ds (k:Int)) hI.1 (by omega)
     omega)
  (fun n _=>by simp only [Zt_L1]; rw [if_neg (by simp)]) 1 ⟨by omega,by omega⟩
 unfold Zt
 rw [this,goI_pr _ _ _ _ _ (by omega) (by omega)]
 simp only [Int.one_mul,Option.bind_some]
 have e:SZ ds↔(∀ d∈ds,1≤d)∧pr ds≤4096:=Iff.rfl
 by_cases h:SZ ds
 ·rw [if_pos (e.1 h),if_pos h]; rfl
 ·rw [if_neg (fun g=>h (e.2 g)),if_neg h]
theorem dims_s {ds:List Int}(hb:ds.length<big):Zl ds=some (decide (OKD ds)):=by
 unfold Zl
 by_cases h:ds.length≤6
 ·have e:decide ((ds.length:Int)≤6)=true:=by simp; omega
  rw [e]
  simp only [gcall,size_s hb,cond_true,Option.bind_some,Bool.true_and]
  congr 1
  by_cases g:SZ ds
  ·have:=g.pos; simp [g,OKD,h]; omega
  ·simp [g,OKD]
 ·have e:decide ((ds.length:Int)≤6)=false:=by simp; omega
  rw [e]
  simp [gcall,OKD,h]
theorem dims_i {ds:List Int}(hb:ds.length<big):Zb ds=some (decide (OKD ds)):=by
 have:=loop_goI (S:=Int) ds (fun _ n=>1≤n∧n≤4096) (fun s:Int×Int=>Zb_L1 ds s.1 s.2) (fun n i=>(n,i)) (fun (s:Int) (_:Nat) (x:Int)=>if (decide (x<1)||decide (x>4096))=true then .inr (.inl false) else if decide (s*x>4096)=true then .inr (.inl false) else .inl (s*x)) (fun n=>.inr ())
  (fun n k hI hk=>by
   simp only [Zb_L1]
   rw [if_pos (by simp; omega),if_pos (by omega)]
   split
   ·rfl
   ·rename_i h
    simp only [Bool.or_eq_true,decide_eq_true_eq,not_or] at h
    rw [w64_mul (by omega) (by omega) (by omega) (by omega),w64k (by omega)]
    split<;>rfl)
  (fun n k s hI hk hs=>by
   split at hs
   ·cases hs
   ·rename_i h
    simp only [Bool.or_eq_true,decide_eq_true_eq,not_or] at h
    split at hs
    ·cases hs
    ·rename_i h2
     simp only [decide_eq_true_eq] at h2
     cases hs
     have:=mul_ge' (a:=n) (b:=ix ds (k:Int)) hI.1 (by omega)
     omega)
  (fun n _=>by simp only [Zb_L1]; rw [if_neg (by simp)]) 1 ⟨by omega,by omega⟩
 unfold Zb
 rw [this,goI_pr _ _ _ _ _ (by omega) (by omega)]
 simp only [Int.one_mul,Option.bind_some]
 have e:SZ ds↔(∀ d∈ds,1≤d)∧pr ds≤4096:=Iff.rfl
 by_cases h:SZ ds
 ·rw [if_pos (e.1 h)]
  simp only [Zb_J1]
  congr 1
  simp [OKD,h]; omega
 ·rw [if_neg (fun g=>h (e.2 g))]
  simp [OKD,h]
theorem prod_i {ds:List Int}(hb:ds.length<big)(h:SZ ds):Zk ds=some (pr ds):=by
 have:=loop_goI (S:=Int) ds (fun k n=>n=pr (ds.take k)) (fun s:Int×Int=>Zk_L1 ds s.1 s.2) (fun n i=>(n,i)) (fun (s:Int) (_:Nat) (x:Int)=>.inl (s*x)) (fun n=>n)
  (fun n k hI hk=>by
   simp only [Zk_L1]
   have h1:=(h.take k)
   have h2:=h1.pos
   have h3:=h.mem (ix_mem hk)
   rw [if_pos (by simp; omega),if_pos (by omega),w64_mul (by omega) (by have:=h1.2; omega) (by omega) (by omega),w64k (by omega)])
  (fun n k s hI hk hs=>by
   simp only [Sum.inl.injEq] at hs
   rw [← hs,hI,List.take_succ_eq_append_getElem hk,pr_app,ix_at hk]
   simp [pr])
  (fun n _=>by simp only [Zk_L1]; rw [if_neg (by simp)]) 1 rfl
 unfold Zk
 rw [this,goI_pr1]
 simp [Zk_J1]
def idx:List Int→Int→List Int
 | [],_=>[]
 | d::ds,k=>(k / pr ds) % d::idx ds k
def ord:List Int→List Int→Int
 | d::ds,i::is=>i*pr ds+ord ds is
 | _,_=>0
def IV:List Int→List Int→Prop
 | [],[]=>True
 | d::ds,i::is=>(0≤i∧i<d)∧IV ds is
 | _,_=>False
theorem idx_len (ds:List Int)(k:Int):(idx ds k).length=ds.length:=by
 induction ds with
 | nil=>rfl
 | cons d ds ih=>simp [idx,ih]
theorem IV.len {ds is:List Int}(h:IV ds is):is.length=ds.length:=by
 induction ds generalizing is with
 | nil=>cases is with
  | nil=>rfl
  | cons=>exact h.elim
 | cons d ds ih=>cases is with
  | nil=>exact h.elim
  | cons i is=>simp [ih h.2]
theorem idx_IV {ds:List Int}(h:∀ d∈ds,1≤d)(k:Int):IV ds (idx ds k):=by
 induction ds with
 | nil=>trivial
 | cons d ds ih =>
  have hd:=h d (by simp)
  exact ⟨⟨Int.emod_nonneg _ (by omega),Int.emod_lt_of_pos _ (by omega)⟩,ih fun x hx=>h x (by simp [hx])⟩
theorem ord_bd {ds is:List Int}(h:∀ d∈ds,1≤d)(hi:IV ds is):0≤ord ds is∧ord ds is<pr ds:=by
 induction ds generalizing is with
 | nil=>cases is with
  | nil=>exact ⟨Int.le_refl 0,by decide⟩
  | cons=>exact hi.elim
 | cons d ds ih=>cases is with
  | nil=>exact hi.elim
  | cons i is =>
   obtain ⟨a,b⟩:=ih (fun x hx=>h x (by simp [hx])) hi.2
   have hp:1≤pr ds:=pr_pos fun x hx=>h x (by simp [hx])
   have h0:=Int.mul_nonneg hi.1.1 (show 0≤pr ds by omega)
   have h1:(i+1)*pr ds≤d*pr ds:=Int.mul_le_mul_of_nonneg_right (by have:=hi.1.2; omega) (by omega)
   rw [Int.add_mul] at h1
   show 0≤i*pr ds+ord ds is∧i*pr ds+ord ds is<d*pr ds
   omega
theorem two_ {k p d:Int}(hp:1≤p)(hd:1≤d):k / (d*p)=k / p / d∧k % (d*p)=k / p % d*p+k % p:=by
 have a:=Int.emod_nonneg k (show p≠0 by omega)
 have b:=Int.emod_lt_of_pos k (show 0<p by omega)
 have c:=Int.emod_nonneg (k / p) (show d≠0 by omega)
 have e:=Int.emod_lt_of_pos (k / p) (show 0<d by omega)
 have h1:=Int.mul_nonneg c (show 0≤p by omega)
 have h2:(k / p % d+1)*p≤d*p:=Int.mul_le_mul_of_nonneg_right (by omega) (by omega)
 rw [Int.add_mul] at h2
 have h3:0<d*p:=Int.mul_pos (by omega) (by omega)
 refine (Int.ediv_emod_unique (q:=k / p / d) h3).2 ⟨?_,by omega,by omega⟩
 have e1:=Int.mul_ediv_add_emod k p
 have e2:=Int.mul_ediv_add_emod (k / p) d
 have e3:d*p*(k / p / d)=p*(d*(k / p / d)):=by rw [Int.mul_comm d p,Int.mul_assoc]
 have e4:p*(k / p)=p*(d*(k / p / d))+p*(k / p % d):=by rw [← Int.mul_add,e2]
 rw [e3,Int.mul_comm (k / p % d) p]
 omega
theorem ord_idx {ds:List Int}(h:∀ d∈ds,1≤d)(k:Int):ord ds (idx ds k)=k % pr ds:=by
 induction ds generalizing k with
 | nil=>simp [ord,pr,Int.emod_one]
 | cons d ds ih =>
  have hp:1≤pr ds:=pr_pos fun x hx=>h x (by simp [hx])
  have hd:=h d (by simp)
  show k / pr ds % d*pr ds+ord ds (idx ds k)=k % (d*pr ds)
  rw [ih fun x hx=>h x (by simp [hx])]
  exact (two_ hp hd).2.symm
theorem idx_small {ds:List Int}(h:∀ d∈ds,1≤d){k:Int}(h0:0≤k)(h1:k<pr ds):ord ds (idx ds k)=k:=by
 rw [ord_idx h,Int.emod_eq_of_lt h0 h1]
theorem loopN {S R:Type}{f:S→Option (S⊕R)}(st:Nat→S)(n:Nat){r:R}(hs:∀ j,j<n→f (st j)=some (.inl (st (j+1))))(he:f (st n)=some (.inr r)){s:S}(h0:s=st 0):loopM f s=some r:=by
 have key:∀ m j,j+m=n→loopM f (st j)=some r:=by
  intro m
  induction m with
  | zero=>intro j hj; rw [show j=n by omega]; exact loopM_end he
  | succ m ih=>intro j hj; rw [loopM_next (hs j (by omega))]; exact ih (j+1) (by omega)
 rw [h0]
 exact key n 0 (by omega)
theorem loopI {S R:Type}{f:S→Option (S⊕R)}(I:Nat→S→Prop)(n:Nat){Post:R→Prop}(hs:∀ j s,j<n→I j s→∃ s',f s=some (.inl s')∧I (j+1) s')(he:∀ s,I n s→∃ r,f s=some (.inr r)∧Post r){s:S}(h0:I 0 s):∃ r,loopM f s=some r∧Post r:=by
 have key:∀ m j s,j+m=n→I j s→∃ r,loopM f s=some r∧Post r:=by
  intro m
  induction m with
  | zero =>
   intro j s hj hI
   rw [show j=n by omega] at hI
   obtain ⟨r,h1,h2⟩:=he s hI
   exact ⟨r,loopM_end h1,h2⟩
  | succ m ih =>
   intro j s hj hI
   obtain ⟨s',h1,h2⟩:=hs j s (by omega) hI
   rw [loopM_next h1]
   exact ih (j+1) s' (by omega) h2
 exact key n 0 s (by omega) h0
structure TOk (dims data:List Int):Prop where
 d:OKD dims
 l:(data.length:Int)=pr dims
 x:∀ x∈data,0≤x∧x<2147483647
instance (dims data:List Int):Decidable (TOk dims data):=decidable_of_iff (OKD dims∧(data.length:Int)=pr dims∧∀ x∈data,0≤x∧x<2147483647) ⟨fun h=>⟨h.1,h.2.1,h.2.2⟩,fun h=>⟨h.d,h.l,h.x⟩⟩
theorem all_nums (xs:List Int):(xs.all fun x=>!(decide (x<0)||decide (x≥2147483647)))=decide (∀ x∈xs,0≤x∧x<2147483647):=by
 rw [Bool.eq_iff_iff]
 simp only [List.all_eq_true,decide_eq_true_eq,Bool.not_eq_true',Bool.or_eq_false_iff,decide_eq_false_iff_not]
 exact ⟨fun h x hx=>by have:=h x hx; omega,fun h x hx=>by have:=h x hx; omega⟩
theorem tens_s {t:Tensor}(hd:t.Dims.length<big)(hb:t.Data.length<big):Zo t=some (decide (TOk t.Dims t.Data)):=by
 unfold Zo
 rw [dims_s hd]
 by_cases h:OKD t.Dims
 ·simp only [h,decide_true,Option.bind_some,gcall,Bool.not_true,Bool.not_false,cond_true,Bool.false_or,size_s hd,h.2,if_true]
  by_cases e:(t.Data.length:Int)=pr t.Dims
  ·rw [if_neg (by simp [e])]
   have:=loop_all t.Data (fun s:Int=>Zo_L1 t s) (fun i=>i) (fun x=>!(decide (x<0)||decide (x≥2147483647))) (.inl false) (.inr ())
    (fun k hk=>by
     simp only [Zo_L1]
     rw [if_pos (by simp; omega),if_pos (by omega),w64k (by omega)]
     cases (decide (ix t.Data (k:Int)<0)||decide (ix t.Data (k:Int)≥2147483647))<;>rfl)
    (by simp only [Zo_L1]; rw [if_neg (by simp)])
   rw [this,all_nums]
   by_cases g:∀ x∈t.Data,0≤x∧x<2147483647
   ·have:TOk t.Dims t.Data:=⟨h,e,g⟩
    simp only [decide_eq_true g,decide_eq_true this,if_true,Option.bind_some,Zo_J1]
   ·have:¬ TOk t.Dims t.Data:=fun q=>g q.x
    simp only [decide_eq_false g,decide_eq_false this,Bool.false_eq_true,if_false,Option.bind_some]
  ·rw [if_pos (by simp [e])]
   have:¬ TOk t.Dims t.Data:=fun q=>e q.l
   simp [this]
 ·have:¬ TOk t.Dims t.Data:=fun q=>h q.d
  simp [h,this,gcall]
theorem tens_i {t:Tensor}(hd:t.Dims.length<big)(hb:t.Data.length<big):Z2i t=some (decide (TOk t.Dims t.Data)):=by
 unfold Z2i
 rw [dims_i hd]
 by_cases h:OKD t.Dims
 ·simp only [h,decide_true,Option.bind_some,gcall,cond_true,Bool.true_and,prod_i hd h.2]
  by_cases e:(t.Data.length:Int)=pr t.Dims
  ·have:=loop_all t.Data (fun s:Int=>Z11_L1 t.Data s) (fun i=>i) (fun x=>!(decide (x<0)||decide (x≥2147483647))) (.inl false) (.inr ())
    (fun k hk=>by
     simp only [Z11_L1,Z2z,Option.bind_some]
     rw [if_pos (by simp; omega),if_pos (by omega),w64k (by omega)]
     by_cases c1:ix t.Data (k:Int)<0
     ·have:¬ ix t.Data (k:Int)≥0:=by omega
      simp [c1,this]
     ·have h1:ix t.Data (k:Int)≥0:=by omega
      by_cases c2:ix t.Data (k:Int)<2147483647
      ·have h2:¬ ix t.Data (k:Int)≥2147483647:=by omega
       simp [c1,h1,c2,h2]
      ·have h2:ix t.Data (k:Int)≥2147483647:=by omega
       simp [c1,h1,c2,h2])
    (by simp only [Z11_L1]; rw [if_neg (by simp)])
   simp only [e,beq_self_eq_true,cond_true,Z11,this,all_nums]
   by_cases g:∀ x∈t.Data,0≤x∧x<2147483647
   ·have:TOk t.Dims t.Data:=⟨h,e,g⟩
    simp only [decide_eq_true g,decide_eq_true this,if_true,Option.bind_some,Z11_J1,Bool.and_self]
   ·have:¬ TOk t.Dims t.Data:=fun q=>g q.x
    simp only [decide_eq_false g,decide_eq_false this,Bool.false_eq_true,if_false,Option.bind_some,Bool.and_false]
  ·have:¬ TOk t.Dims t.Data:=fun q=>e q.l
   have e2:((t.Data.length:Int)==pr t.Dims)=false:=by simp [e]
   simp [this,e2]
 ·have:¬ TOk t.Dims t.Data:=fun q=>h q.d
  simp [h,this,gcall]
theorem ints_s {xs:List Int}(h:xs.length≤17592186044416):Zq xs=some xs:=by
 unfold Zq
 rw [if_pos (by simpa using h)]
 simp
theorem clone_i {xs:List Int}(h:xs.length≤17592186044416):Zm xs=some xs:=by
 unfold Zm; rw [if_pos h]
theorem all_zip (a b:List Int)(h:a.length=b.length):(List.range a.length).all (fun k=>!(ix a (k:Int) != ix b (k:Int)))=decide (a=b):=by
 rw [Bool.eq_iff_iff]
 simp only [List.all_eq_true,List.mem_range,decide_eq_true_eq,bne,Bool.not_not,beq_iff_eq]
 constructor
 ·intro q
  apply List.ext_getElem h
  intro i h1 h2
  have:=q i h1
  rwa [ix_at h1,ix_at h2] at this
 ·rintro rfl k _; rfl
theorem same_s {a b:List Int}(ha:a.length<big):Zz a b=some (decide (a=b)):=by
 unfold Zz
 by_cases h:a.length=b.length
 ·rw [if_neg (by simp [h])]
  have:=loop_allI a.length (fun s:Int=>Zz_L1 a b s) (fun i=>i) (fun k=>!(ix a (k:Int) != ix b (k:Int))) (.inl false) (.inr ())
   (fun k hk=>by
    simp only [Zz_L1]
    rw [if_pos (by simp; omega),if_pos (by omega),if_pos (by omega),w64k (by omega)]
    cases (ix a (k:Int) != ix b (k:Int))<;>rfl)
   (by simp only [Zz_L1]; rw [if_neg (by simp)])
  rw [this,all_zip a b h]
  by_cases e:a=b<;>simp [e,Zz_J1]
 ·rw [if_pos (by simp; omega)]
  have:a≠b:=fun e=>h (by rw [e])
  simp [this]
theorem equal_i {a b:List Int}(ha:a.length<big):Z0y a b=some (decide (a=b)):=by
 unfold Z0y
 by_cases h:a.length=b.length
 ·rw [if_neg (by simp [h])]
  have:=loop_allI a.length (fun s:Int=>Z0y_L1 a b s) (fun i=>i) (fun k=>!(ix a (k:Int) != ix b (k:Int))) (.inl false) (.inr ())
   (fun k hk=>by
    simp only [Z0y_L1]
    rw [if_pos (by simp; omega),if_pos (by omega),if_pos (by omega),w64k (by omega)]
    cases (ix a (k:Int) != ix b (k:Int))<;>rfl)
   (by simp only [Z0y_L1]; rw [if_neg (by simp)])
  rw [this,all_zip a b h]
  by_cases e:a=b<;>simp [e,Z0y_J1]
 ·rw [if_pos (by simp; omega)]
  have:a≠b:=fun e=>h (by rw [e])
  simp [this]
theorem new_s {ds:List Int}(h:OKD ds):Z0g ds=some ⟨ds,List.replicate (pr ds).toNat 0⟩:=by
 have h1:=h.1
 have h2:=h.2.pos
 have h3:=h.2.2
 unfold Z0g
 rw [ints_s (by omega)]
 simp only [Option.bind_some,size_s (ds:=ds) (by unfold big; omega),h.2,if_true]
 rw [if_pos (by omega)]
theorem index_s {ds:List Int}{k:Int}(h:OKD ds)(h0:0≤k)(h1:k≤65536):Zg ds k=some (idx ds k):=by
 have hl:=h.1
 unfold Zg
 rw [if_pos (by omega)]
 have:=loopN (f:=fun s:Int×List Int×Int=>Zg_L1 ds s.1 s.2.1 s.2.2) (r:=idx ds k)
  (fun j=>(k / pr (ds.drop (ds.length - j)),List.replicate (ds.length - j) 0++idx (ds.drop (ds.length - j)) k,(ds.length:Int) - 1 - j)) ds.length
  (fun j hj=>by
   obtain ⟨i,hi⟩:∃ i,i=ds.length - (j+1):=⟨_,rfl⟩
   have e1:ds.length - j=i+1:=by omega
   have e2:(ds.length:Int) - 1 - (j:Int)=(i:Int):=by omega
   have hi2:i<ds.length:=by omega
   have hm:=h.2.mem (ix_mem hi2)
   have hp:=(h.2.drop (i+1)).pos
   have hd:ds.drop i=ix ds (i:Int)::ds.drop (i+1):=by rw [List.drop_eq_getElem_cons hi2,ix_at hi2]
   have hq:0≤k / pr (ds.drop (i+1)):=Int.ediv_nonneg h0 (by omega)
   have hq2:k / pr (ds.drop (i+1))≤65536:=Int.le_trans (Int.ediv_le_self _ h0) h1
   simp only [Zg_L1,e1,e2,← hi]
   rw [if_pos (by simp),if_pos (by omega),if_pos (by omega),if_pos (by simp; omega)]
   have e3:(k / pr (ds.drop (i+1))).tdiv (ix ds (i:Int))=k / pr (ds.drop i):=by
    rw [Int.tdiv_eq_ediv_of_nonneg hq,hd]; exact (two_ hp hm.1).1.symm
   have e4:(k / pr (ds.drop (i+1))).tmod (ix ds (i:Int))=k / pr (ds.drop (i+1)) % ix ds (i:Int):=Int.tmod_eq_emod_of_nonneg hq
   have hq3:0≤k / pr (ds.drop i):=Int.ediv_nonneg h0 (by have:=(h.2.drop i).pos; omega)
   have hq4:k / pr (ds.drop i)≤65536:=Int.le_trans (Int.ediv_le_self _ h0) h1
   rw [e3,e4,w64_id (by omega) (by omega),w64_id (by omega) (by omega)]
   congr 4
   ·rw [hd,List.set_append_left _ _ (by simp),List.replicate_succ',List.set_append_right _ _ (by simp)]
    simp [idx]
   ·omega)
  (by
   simp only [Zg_L1,Nat.sub_self,List.drop_zero,List.replicate_zero,List.nil_append]
   rw [if_neg (by simp; omega)])
  (s:=(k,List.replicate (ds.length:Int).toNat 0,w64 ((ds.length:Int) - 1))) (by
   rw [w64_id (by omega) (by omega)]
   simp [pr,idx])
 rw [this]
 rfl
theorem ord_take {ds is:List Int}(hi:IV ds is){k:Nat}(hk:k<ds.length):IV (ds.take k) (is.take k)∧ord (ds.take (k+1)) (is.take (k+1))=ord (ds.take k) (is.take k)*ix ds (k:Int)+ix is (k:Int):=by
 induction ds generalizing is k with
 | nil=>simp at hk
 | cons d ds ih=>cases is with
  | nil=>exact hi.elim
  | cons i is =>
   cases k with
   | zero=>simp [IV,ord,pr,ix]
   | succ k =>
    obtain ⟨a,b⟩:=ih hi.2 (k:=k) (by simpa using hk)
    refine ⟨⟨hi.1,a⟩,?_⟩
    have hk':k<ds.length:=by simpa using hk
    have e1:ix (d::ds) ((k+1:Nat):Int)=ix ds (k:Int):=by simp [ix]
    have e2:ix (i::is) ((k+1:Nat):Int)=ix is (k:Int):=by simp [ix]
    rw [e1,e2]
    have e3:pr (ds.take (k+1))=pr (ds.take k)*ix ds (k:Int):=by rw [List.take_succ_eq_append_getElem hk',pr_app,ix_at hk']; simp [pr]
    show i*pr (ds.take (k+1))+ord (ds.take (k+1)) (is.take (k+1))=(i*pr (ds.take k)+ord (ds.take k) (is.take k))*ix ds (k:Int)+ix is (k:Int)
    rw [b,e3,Int.add_mul,Int.mul_assoc,Int.add_assoc]
theorem order_s {ds is:List Int}(h:OKD ds)(hi:IV ds is):Z0l ds is=some (ord ds is):=by
 have hl:=h.1
 have hil:=hi.len
 unfold Z0l
 have:=loopN (f:=fun s:Int×Int=>Z0l_L1 ds is s.1 s.2) (r:=ord ds is) (fun j=>(ord (ds.take j) (is.take j),(j:Int))) ds.length
  (fun j hj=>by
   obtain ⟨a,b⟩:=ord_take hi hj
   have hb:=ord_bd (fun d hd=>h.2.1 d (List.mem_of_mem_take hd)) a
   have hp:=(h.2.take j).2
   have hb2:=ord_bd (fun d hd=>h.2.1 d (List.mem_of_mem_take hd)) (ds:=ds.take (j+1)) (is:=is.take (j+1)) (by
    by_cases e:j+1<ds.length
    ·exact (ord_take hi e).1
    ·rw [List.take_of_length_le (by omega),List.take_of_length_le (by omega)]; exact hi)
   have hp2:=(h.2.take (j+1)).2
   have hm:=h.2.mem (ix_mem hj)
   simp only [Z0l_L1]
   rw [if_pos (by simp; omega),if_pos (by omega),if_pos (by omega),w64_mul (by omega) (by omega) (by omega) (by omega),← b,w64_id (by omega) (by omega),w64k (by unfold big; omega)])
  (by simp only [Z0l_L1]; rw [if_neg (by simp),List.take_length,List.take_of_length_le (by omega)])
  (s:=(0,0)) (by simp [ord])
 rw [this]
 rfl
theorem get_s {t:Tensor}{is:List Int}(h:TOk t.Dims t.Data)(hi:IV t.Dims is):∃ x,Z13 t is=some x∧x∈t.Data:=by
 have hb:=ord_bd h.d.2.1 hi
 have hl:=h.l
 unfold Z13
 rw [order_s h.d hi]
 simp only [Option.bind_some]
 rw [if_pos (by omega)]
 refine ⟨_,rfl,?_⟩
 have e:(((ord t.Dims is).toNat:Nat):Int)=ord t.Dims is:=by omega
 rw [← e]
 exact ix_mem (by omega)
theorem set_s {t:Tensor}{is:List Int}{x:Int}(h:OKD t.Dims)(hl:(t.Data.length:Int)=pr t.Dims)(hi:IV t.Dims is):Z1r t is x=some (t.Data.set (ord t.Dims is).toNat x):=by
 have hb:=ord_bd h.2.1 hi
 unfold Z1r
 rw [order_s h hi]
 simp only [Option.bind_some]
 rw [if_pos (by omega)]
def zs (f:Int→Int→Int):List Int→List Int→Int
 | a::xs,b::ys=>f a b+zs f xs ys
 | _,_=>0
theorem zs_take (f:Int→Int→Int){xs ys:List Int}{j:Nat}(ha:j<xs.length)(hb:j<ys.length):zs f (xs.take (j+1)) (ys.take (j+1))=zs f (xs.take j) (ys.take j)+f (ix xs (j:Int)) (ix ys (j:Int)):=by
 induction xs generalizing ys j with
 | nil=>simp at ha
 | cons a xs ih=>cases ys with
  | nil=>simp at hb
  | cons b ys =>
   cases j with
   | zero=>simp [zs,ix]
   | succ j =>
    have e1:ix (a::xs) ((j+1:Nat):Int)=ix xs (j:Int):=by simp [ix]
    have e2:ix (b::ys) ((j+1:Nat):Int)=ix ys (j:Int):=by simp [ix]
    have:=ih (ys:=ys) (j:=j) (by simpa using ha) (by simpa using hb)
    rw [e1,e2]
    simp only [List.take_succ_cons,zs] at this ⊢
    omega
theorem zs_bd (f:Int→Int→Int){xs ys:List Int}{M:Int}(hl:xs.length=ys.length)(hf:∀ j:Nat,j<xs.length → -M≤f (ix xs (j:Int)) (ix ys (j:Int))∧f (ix xs (j:Int)) (ix ys (j:Int))≤M){j:Nat}(hj:j≤xs.length) :
  -(j*M)≤zs f (xs.take j) (ys.take j)∧zs f (xs.take j) (ys.take j)≤j*M:=by
 induction j with
 | zero=>simp [zs]
 | succ j ih =>
  have h1:=ih (by omega)
  have h2:=hf j (by omega)
  rw [zs_take f (by omega) (by omega)]
  have e:((j+1:Nat):Int)*M=(j:Int)*M+M:=by rw [show ((j+1:Nat):Int)=(j:Int)+1 by omega,Int.add_mul]; omega
  rw [e]
  omega
def lw (d s:Int):Int:=if s*(d - 1)<0 then s*(d - 1) else 0
def hw (d s:Int):Int:=if s*(d - 1)>0 then s*(d - 1) else 0
theorem dot_bd {ds is ss:List Int}(hi:IV ds is)(hl:ss.length=ds.length):zs lw ds ss≤zs (·*·) is ss∧zs (·*·) is ss≤zs hw ds ss:=by
 induction ds generalizing is ss with
 | nil=>cases is with
  | nil=>simp [zs]
  | cons=>exact hi.elim
 | cons d ds ih=>cases is with
  | nil=>exact hi.elim
  | cons i is=>cases ss with
   | nil=>simp at hl
   | cons s ss =>
    obtain ⟨a,b⟩:=ih hi.2 (ss:=ss) (by simpa using hl)
    have h1:0≤i∧i≤d - 1:=⟨hi.1.1,by have:=hi.1.2; omega⟩
    have key:lw d s≤i*s∧i*s≤hw d s:=by
     unfold lw hw
     rw [Int.mul_comm i s]
     rcases Int.le_total 0 s with hs | hs
     ·have q1:0≤s*i:=Int.mul_nonneg hs h1.1
      have q2:s*i≤s*(d - 1):=Int.mul_le_mul_of_nonneg_left h1.2 hs
      split<;>split<;>omega
     ·have q1:s*i≤0:=Int.mul_nonpos_of_nonpos_of_nonneg hs h1.1
      have q2:s*(d - 1)≤s*i:=Int.mul_le_mul_of_nonpos_left hs h1.2
      split<;>split<;>omega
    simp only [zs]
    omega
structure VG (dims ss:List Int)(off base:Int):Prop where
 d:OKD dims
 l:ss.length=dims.length
 b:1≤base∧base≤4096
 o:0≤off∧off<base
 s:∀ s∈ss,-4096≤s∧s≤4096
 lo:0≤off+zs lw dims ss
 hi:off+zs hw dims ss<base
theorem VG.place {dims ss:List Int}{off base:Int}(h:VG dims ss off base){is:List Int}(hi:IV dims is):0≤off+zs (·*·) is ss∧off+zs (·*·) is ss<base:=by
 have h1:=dot_bd hi h.l
 have h2:=h.lo
 have h3:=h.hi
 omega
theorem IV.mem {ds is:List Int}(h:IV ds is){j:Nat}(hj:j<is.length):0≤ix is (j:Int)∧ix is (j:Int)<ix ds (j:Int):=by
 induction ds generalizing is j with
 | nil=>cases is with
  | nil=>simp at hj
  | cons=>exact h.elim
 | cons d ds ih=>cases is with
  | nil=>exact h.elim
  | cons i is=>cases j with
   | zero=>exact h.1
   | succ j =>
    have e1:ix (i::is) ((j+1:Nat):Int)=ix is (j:Int):=by simp [ix]
    have e2:ix (d::ds) ((j+1:Nat):Int)=ix ds (j:Int):=by simp [ix]
    rw [e1,e2]
    exact ih h.2 (by simpa using hj)
theorem mul_bd {a b M N:Int}(h0:0≤a)(h1:a≤M)(h2 : -N≤b)(h3:b≤N)(hN:0≤N) : -(M*N)≤a*b∧a*b≤M*N:=by
 have k1:a*b≤a*N:=Int.mul_le_mul_of_nonneg_left h3 h0
 have k2:a*N≤M*N:=Int.mul_le_mul_of_nonneg_right h1 hN
 have k3:a*(-N)≤a*b:=Int.mul_le_mul_of_nonneg_left h2 h0
 rw [Int.mul_neg] at k3
 omega
theorem sub_all {α:Type}(xs:List α){l:Int}:sub xs l (xs.length:Int)=xs.drop l.toNat:=by simp [sub]
theorem place_s {v:View}{is:List Int}(h:OKD v.Dims)(hl:v.Strides.length=v.Dims.length)(hs:∀ s∈v.Strides,-4096≤s∧s≤4096)(ho:0≤v.Offset∧v.Offset≤4096)(hi:IV v.Dims is):Z12 v is=some (v.Offset+zs (·*·) is v.Strides):=by
 have hil:=hi.len
 have hn:=h.1
 unfold Z12
 have term:∀ j:Nat,j<is.length → -(4096*4096)≤ix is (j:Int)*ix v.Strides (j:Int)∧ix is (j:Int)*ix v.Strides (j:Int)≤4096*4096:=by
  intro j hj
  have h1:=hi.mem hj
  have h2:=h.2.mem (ix_mem (xs:=v.Dims) (k:=j) (by omega))
  have h3:=hs _ (ix_mem (xs:=v.Strides) (k:=j) (by omega))
  exact mul_bd h1.1 (by omega) h3.1 h3.2 (by omega)
 have bd:∀ j,j≤is.length → -(6*(4096*4096))≤zs (·*·) (is.take j) (v.Strides.take j)∧zs (·*·) (is.take j) (v.Strides.take j)≤6*(4096*4096):=by
  intro j hj
  have:=zs_bd (·*·) (xs:=is) (ys:=v.Strides) (M:=4096*4096) (by omega) term hj
  have hj6:(j:Int)≤6:=by omega
  have:=Int.mul_le_mul_of_nonneg_right hj6 (show (0:Int)≤4096*4096 by omega)
  omega
 have:=loopN (f:=fun s:Int×Int=>Z12_L1 v is s.1 s.2) (r:=v.Offset+zs (·*·) is v.Strides) (fun j=>(v.Offset+zs (·*·) (is.take j) (v.Strides.take j),(j:Int))) is.length
  (fun j hj=>by
   have t:=term j hj
   have b1:=bd (j+1) (by omega)
   have b0:=bd j (by omega)
   rw [zs_take (·*·) hj (by omega)] at b1
   simp only [Z12_L1]
   rw [if_pos (by simp; omega),if_pos (by omega),if_pos (by omega),w64_id (n:=ix is (j:Int)*ix v.Strides (j:Int)) (by omega) (by omega),w64_id (by omega) (by omega),w64k (by unfold big; omega),zs_take (·*·) hj (by omega),Int.add_assoc])
  (by simp only [Z12_L1]; rw [if_neg (by simp),List.take_length,List.take_of_length_le (by omega)])
  (s:=(v.Offset,0)) (by simp [zs])
 rw [this]
 rfl
def plc (dims ss:List Int)(off:Int):List Int:=(List.range (pr dims).toNat).map fun k:Nat=>off+zs (·*·) (idx dims (k:Int)) ss
theorem all_s {v:View}(h:OKD v.Dims)(hl:v.Strides.length=v.Dims.length)(hs:∀ s∈v.Strides,-4096≤s∧s≤4096)(ho:0≤v.Offset∧v.Offset≤4096):Z0a v=some (plc v.Dims v.Strides v.Offset):=by
 have hn:=h.1
 have hp:=h.2.pos
 have hp2:=h.2.2
 unfold Z0a
 rw [size_s (by unfold big; omega),if_pos h.2]
 simp only [Option.bind_some]
 have:=loopN (f:=fun s:List Int×Int=>Z0a_L1 v (pr v.Dims) s.1 s.2) (r:=plc v.Dims v.Strides v.Offset) (fun j=>((List.range j).map fun k:Nat=>v.Offset+zs (·*·) (idx v.Dims (k:Int)) v.Strides,(j:Int))) (pr v.Dims).toNat
  (fun j hj=>by
   simp only [Z0a_L1]
   rw [if_pos (by simp; omega),index_s h (by omega) (by omega)]
   simp only [Option.bind_some]
   rw [place_s h hl hs ho (idx_IV h.2.1 _)]
   simp only [Option.bind_some]
   rw [if_pos (by simp; omega),w64k (by unfold big; omega),List.range_succ,List.map_append]
   rfl)
  (by simp only [Z0a_L1]; rw [if_neg (by simp; omega)]; rfl)
  (s:=([],0)) rfl
 rw [this]
 rfl
theorem strides_all (ss:List Int)(h:∀ s∈ss,-4096≤s∧s≤4096):(ss.all fun x=>!(decide (x < -4096)||decide (x>4096)))=true:=by
 rw [List.all_eq_true]
 intro x hx
 have:=h x hx
 simp; omega
theorem view_s {v:View}(h:VG v.Dims v.Strides v.Offset v.Base):Z8 v=some true:=by
 have hn:=h.d.1
 have hl:=h.l
 have hb:=h.b
 have ho:=h.o
 unfold Z8
 rw [dims_s (by unfold big; omega)]
 simp only [h.d,decide_true,Option.bind_some]
 rw [if_neg (by simp; omega)]
 have l1:=loop_all v.Strides (fun s:Int=>Z8_L1 v s) (fun i=>i) (fun x=>!(decide (x < -4096)||decide (x>4096))) (.inl false) (.inr ())
  (fun k hk=>by
   simp only [Z8_L1]
   rw [if_pos (by simp; omega),if_pos (by omega),w64k (by unfold big; omega)]
   cases (decide (ix v.Strides (k:Int) < -4096)||decide (ix v.Strides (k:Int)>4096))<;>rfl)
  (by simp only [Z8_L1]; rw [if_neg (by simp)])
 rw [l1,strides_all _ h.s]
 simp only [if_true,Option.bind_some,Z8_J1]
 rw [all_s h.d hl h.s ⟨by omega,by omega⟩]
 simp only [Option.bind_some]
 have hpl:(plc v.Dims v.Strides v.Offset).length≤4096:=by have:=h.d.2.2; simp [plc]; omega
 have l2:=loop_all (plc v.Dims v.Strides v.Offset) (fun s:Int=>Z8_L2 v (plc v.Dims v.Strides v.Offset) s) (fun i=>i) (fun x=>!(decide (x<0)||decide (x≥v.Base))) (.inl false) (.inr ())
  (fun k hk=>by
   simp only [Z8_L2]
   rw [if_pos (by simp; omega),if_pos (by omega),w64k (by unfold big; omega)]
   cases (decide (ix (plc v.Dims v.Strides v.Offset) (k:Int)<0)||decide (ix (plc v.Dims v.Strides v.Offset) (k:Int)≥v.Base))<;>rfl)
  (by simp only [Z8_L2]; rw [if_neg (by simp)])
 have e:((plc v.Dims v.Strides v.Offset).all fun x=>!(decide (x<0)||decide (x≥v.Base)))=true:=by
  rw [List.all_eq_true]
  intro x hx
  obtain ⟨k,_,rfl⟩:=List.mem_map.1 hx
  have:=h.place (idx_IV h.d.2.1 (k:Int))
  simp; omega
 rw [l2,e]
 rfl
theorem view0_s:Z8 ⟨[],[],0,0⟩=some false:=by
 unfold Z8
 rw [dims_s (by simp [big])]
 rfl
theorem view0_i:Zf ⟨[],[],0,0⟩=some false:=by
 unfold Zf
 rw [dims_i (by simp [big])]
 rfl
theorem view_i {v:View}(h:VG v.Dims v.Strides v.Offset v.Base):Zf v=some true:=by
 have hn:=h.d.1
 have hl:=h.l
 have hb:=h.b
 have ho:=h.o
 unfold Zf
 rw [dims_i (by unfold big; omega)]
 simp only [h.d,decide_true,Option.bind_some]
 rw [if_neg (by simp; omega)]
 have term:∀ j:Nat,j<v.Dims.length → -(4096*4096)≤ix v.Strides (j:Int)*(ix v.Dims (j:Int) - 1)∧ix v.Strides (j:Int)*(ix v.Dims (j:Int) - 1)≤4096*4096:=by
  intro j hj
  have h2:=h.d.2.mem (ix_mem (xs:=v.Dims) (k:=j) hj)
  have h3:=h.s _ (ix_mem (xs:=v.Strides) (k:=j) (by omega))
  rw [Int.mul_comm (ix v.Strides (j:Int))]
  exact mul_bd (by omega) (by omega) h3.1 h3.2 (by omega)
 have bd:∀ (f:Int→Int→Int),(f=lw∨f=hw)→∀ j,j≤v.Dims.length → -(6*(4096*4096))≤zs f (v.Dims.take j) (v.Strides.take j)∧zs f (v.Dims.take j) (v.Strides.take j)≤6*(4096*4096):=by
  intro f hf j hj
  have:=zs_bd f (xs:=v.Dims) (ys:=v.Strides) (M:=4096*4096) (by omega) (fun j hj=>by
   have:=term j hj
   rcases hf with rfl | rfl
   ·unfold lw; split<;>omega
   ·unfold hw; split<;>omega) hj
  have hj6:(j:Int)≤6:=by omega
  have:=Int.mul_le_mul_of_nonneg_right hj6 (show (0:Int)≤4096*4096 by omega)
  omega
 have:=loopN (f:=fun s:Int×Int×Int=>Zf_L1 v s.1 s.2.1 s.2.2) (r:=.inr (v.Offset+zs lw v.Dims v.Strides,v.Offset+zs hw v.Dims v.Strides)) (fun j=>(v.Offset+zs lw (v.Dims.take j) (v.Strides.take j),v.Offset+zs hw (v.Dims.take j) (v.Strides.take j),(j:Int))) v.Dims.length
  (fun j hj=>by
   have t:=term j hj
   have a0:=bd lw (.inl rfl) j (by omega)
   have a1:=bd lw (.inl rfl) (j+1) (by omega)
   have b0:=bd hw (.inr rfl) j (by omega)
   have b1:=bd hw (.inr rfl) (j+1) (by omega)
   have z1:=zs_take lw (xs:=v.Dims) (ys:=v.Strides) (j:=j) (by omega) (by omega)
   have z2:=zs_take hw (xs:=v.Dims) (ys:=v.Strides) (j:=j) (by omega) (by omega)
   have hs:=h.s _ (ix_mem (xs:=v.Strides) (k:=j) (by omega))
   have hm:=h.d.2.mem (ix_mem (xs:=v.Dims) (k:=j) hj)
   simp only [Zf_L1]
   rw [if_pos (by simp; omega),if_pos (by omega),if_neg (by simp; omega),if_pos (by omega)]
   have e1:w64 (ix v.Dims (j:Int) - 1)=ix v.Dims (j:Int) - 1:=w64_id (by omega) (by omega)
   have e2:w64 (ix v.Strides (j:Int)*(ix v.Dims (j:Int) - 1))=ix v.Strides (j:Int)*(ix v.Dims (j:Int) - 1):=w64_id (by omega) (by omega)
   have e3:lw (ix v.Dims (j:Int)) (ix v.Strides (j:Int))=if ix v.Strides (j:Int)*(ix v.Dims (j:Int) - 1)<0 then ix v.Strides (j:Int)*(ix v.Dims (j:Int) - 1) else 0:=rfl
   have e4:hw (ix v.Dims (j:Int)) (ix v.Strides (j:Int))=if ix v.Strides (j:Int)*(ix v.Dims (j:Int) - 1)>0 then ix v.Strides (j:Int)*(ix v.Dims (j:Int) - 1) else 0:=rfl
   rw [e1,e2,← e3,← e4,w64_id (by omega) (by omega),w64_id (by omega) (by omega),w64k (by unfold big; omega),z1,z2,Int.add_assoc,Int.add_assoc])
  (by simp only [Zf_L1]; rw [if_neg (by simp; omega),List.take_length,List.take_of_length_le (by omega)])
  (s:=(v.Offset,v.Offset,0)) (by simp [zs])
 rw [this]
 have:=h.lo
 have:=h.hi
 simp only [Option.bind_some,Zf_J1]
 congr 1
 simp; omega
def spr:List Int→List Int
 | []=>[]
 | _::ds=>pr ds::spr ds
def stp:List Int→List Int
 | []=>[]
 | d::ds=>(if d>1 then pr ds else 0)::stp ds
theorem spr_len (ds:List Int):(spr ds).length=ds.length:=by
 induction ds with
 | nil=>rfl
 | cons d ds ih=>simp [spr,ih]
theorem stp_len (ds:List Int):(stp ds).length=ds.length:=by
 induction ds with
 | nil=>rfl
 | cons d ds ih=>simp [stp,ih]
theorem ix_cons {α:Type}[Inhabited α](x:α)(xs:List α)(j:Nat):ix (x::xs) ((j+1:Nat):Int)=ix xs (j:Int):=by simp [ix]
theorem ix_spr {ds:List Int}{j:Nat}(h:j<ds.length):ix (spr ds) (j:Int)=pr (ds.drop (j+1)):=by
 induction ds generalizing j with
 | nil=>simp at h
 | cons d ds ih=>cases j with
  | zero=>rfl
  | succ j=>rw [spr,ix_cons,ih (by simpa using h)]; rfl
theorem ix_stp {ds:List Int}{j:Nat}(h:j<ds.length):ix (stp ds) (j:Int)=if ix ds (j:Int)>1 then pr (ds.drop (j+1)) else 0:=by
 induction ds generalizing j with
 | nil=>simp at h
 | cons d ds ih=>cases j with
  | zero=>rfl
  | succ j=>rw [stp,ix_cons,ix_cons,ih (by simpa using h)]; rfl
theorem td_set {L xs:List Int}(hl:L.length=xs.length){j:Nat}(hj:j<xs.length):(L.take j++xs.drop j).set j (ix L (j:Int))=L.take (j+1)++xs.drop (j+1):=by
 rw [ix_at (by omega),List.set_append_right _ _ (by simp; omega),List.take_succ_eq_append_getElem (by omega)]
 have:j - (L.take j).length=0:=by simp; omega
 rw [this,List.drop_eq_getElem_cons hj,List.set_cons_zero,List.append_assoc]
 rfl
theorem td_same {L xs:List Int}(hl:L.length=xs.length){j:Nat}(hj:j<xs.length)(h:ix L (j:Int)=ix xs (j:Int)):L.take j++xs.drop j=L.take (j+1)++xs.drop (j+1):=by
 rw [ix_at (by omega),ix_at hj] at h
 rw [List.take_succ_eq_append_getElem (by omega),List.drop_eq_getElem_cons hj,h]
 simp
theorem stp_mem {ds:List Int}(h:SZ ds):∀ s∈stp ds,0≤s∧s≤4096:=by
 induction ds with
 | nil=>intro s hs; cases hs
 | cons d ds ih =>
  have hp:=h.tail.pos
  have hp2:=h.tail.2
  refine List.forall_mem_cons.2 ⟨?_,ih h.tail⟩
  split<;>omega
theorem whole_lw {ds:List Int}(h:SZ ds):zs lw ds (stp ds)=0:=by
 induction ds with
 | nil=>rfl
 | cons d ds ih =>
  have hd:=h.1 d (by simp)
  have hp:=h.tail.pos
  simp only [stp,zs,ih h.tail]
  unfold lw
  split
  ·have:=Int.mul_nonneg (show 0≤pr ds by omega) (show 0≤d - 1 by omega); split<;>omega
  ·simp
theorem whole_hw {ds:List Int}(h:SZ ds):zs hw ds (stp ds)=pr ds - 1:=by
 induction ds with
 | nil=>rfl
 | cons d ds ih =>
  have hd:=h.1 d (by simp)
  have hp:=h.tail.pos
  simp only [stp,zs,ih h.tail]
  have e:pr (d::ds)=pr ds*(d - 1)+pr ds:=by simp only [pr]; rw [Int.mul_sub,Int.mul_comm (pr ds) d]; omega
  rw [e]
  unfold hw
  by_cases c:d>1
  ·have:0<pr ds*(d - 1):=Int.mul_pos (by omega) (by omega)
   rw [if_pos c,if_pos this]; omega
  ·have:d=1:=by omega
   subst this; simp
theorem VG_whole {ds:List Int}(h:OKD ds):VG ds (stp ds) 0 (pr ds):=by
 have hp:=h.2.pos
 have hp2:=h.2.2
 refine ⟨h,stp_len ds,⟨hp,hp2⟩,⟨by omega,by omega⟩,fun s hs=>by have:=stp_mem h.2 s hs; omega,?_,?_⟩
 ·rw [whole_lw h.2]; decide
 ·rw [whole_hw h.2]; omega
theorem dot_whole {ds is:List Int}(hi:IV ds is):zs (·*·) is (stp ds)=ord ds is:=by
 induction ds generalizing is with
 | nil=>cases is with
  | nil=>rfl
  | cons=>exact hi.elim
 | cons d ds ih=>cases is with
  | nil=>exact hi.elim
  | cons i is =>
   have:=hi.1
   simp only [stp,zs,ord,ih hi.2]
   split
   ·rfl
   ·have:i=0:=by omega
    subst this; simp
theorem plc_whole {ds:List Int}(h:SZ ds):plc ds (stp ds) 0=(List.range (pr ds).toNat).map fun k:Nat=>(k:Int):=by
 unfold plc
 refine List.map_congr_left fun k hk=>?_
 have hk:k<(pr ds).toNat:=by simpa using hk
 have:=h.pos
 rw [dot_whole (idx_IV h.1 _),idx_small h.1 (by omega) (by omega)]
 omega
def whole (ds:List Int):View:=⟨ds,stp ds,0,pr ds⟩
def noView:View:=⟨[],[],0,0⟩
theorem plain_s {ds:List Int}(h:OKD ds):Z0f ⟨ds,spr ds,0,pr ds⟩=some (whole ds):=by
 have hn:=h.1
 unfold Z0f
 have:=loopN (f:=fun s:Int×List Int=>Z0f_L1 ⟨ds,spr ds,0,pr ds⟩ s.1 s.2) (r:=stp ds) (fun j=>((j:Int),(stp ds).take j++(spr ds).drop j)) ds.length
  (fun j hj=>by
   have hm:=h.2.mem (ix_mem hj)
   simp only [Z0f_L1,Z0f_J2]
   rw [if_pos (by simp; omega),if_pos (by omega)]
   by_cases c:ix ds (j:Int)=1
   ·rw [if_pos (by simp [c]),if_pos (by rw [spr_len]; omega),w64k (by unfold big; omega)]
    have e:=td_set (L:=stp ds) (xs:=spr ds) (by rw [stp_len,spr_len]) (j:=j) (by rw [spr_len]; omega)
    rw [ix_stp hj,if_neg (by omega)] at e
    simp only [Int.toNat_natCast]
    rw [e]
   ·rw [if_neg (by simp [c]),w64k (by unfold big; omega),td_same (by rw [stp_len,spr_len]) (by rw [spr_len]; omega) (by rw [ix_stp hj,ix_spr hj,if_pos (by omega)])])
  (by simp only [Z0f_L1]; rw [if_neg (by simp)]; rw [List.take_of_length_le (by rw [stp_len]; omega),List.drop_of_length_le (by rw [spr_len]; omega),List.append_nil])
  (s:=(0,spr ds)) (by simp)
 rw [this]
 rfl
theorem whole_s {ds:List Int}(h:OKD ds):Zv ds=some (whole ds):=by
 have hn:=h.1
 unfold Zv
 rw [dims_s (by unfold big; omega)]
 simp only [h,decide_true,Option.bind_some,Bool.not_true,Bool.false_eq_true,if_false]
 rw [ints_s (by omega),size_s (by unfold big; omega),if_pos h.2]
 simp only [Option.bind_some]
 have:=loopN (f:=fun s:List Int×Int=>Zv_L1 ds s.1 s.2) (r:=spr ds) (fun j=>((spr ds).take j,(j:Int))) ds.length
  (fun j hj=>by
   simp only [Zv_L1]
   rw [if_pos (by simp; omega),w64k (by unfold big; omega),if_pos (by omega),sub_all,Int.toNat_natCast,size_s (by simp [big]; omega),if_pos (h.2.drop (j+1))]
   simp only [Option.bind_some]
   rw [if_pos (by simp; omega),List.take_succ_eq_append_getElem (by rw [spr_len]; omega),← ix_spr hj,ix_at (by rw [spr_len]; omega)])
  (by simp only [Zv_L1]; rw [if_neg (by simp),List.take_of_length_le (by rw [spr_len]; omega)])
  (s:=([],0)) rfl
 rw [this]
 simp only [Option.bind_some,Zv_J1]
 rw [plain_s h]
 rfl
theorem steps_i {ds:List Int}(h:OKD ds):Z04 ds=some (stp ds):=by
 have hn:=h.1
 unfold Z04
 rw [if_pos (by omega)]
 have:=loopN (f:=fun s:List Int×Int×Int=>Z04_L1 ds s.1 s.2.1 s.2.2) (r:=stp ds)
  (fun j=>(List.replicate (ds.length - j) 0++stp (ds.drop (ds.length - j)),pr (ds.drop (ds.length - j)),(ds.length:Int) - 1 - j)) ds.length
  (fun j hj=>by
   obtain ⟨i,hi⟩:∃ i,i=ds.length - (j+1):=⟨_,rfl⟩
   have e1:ds.length - j=i+1:=by omega
   have e2:(ds.length:Int) - 1 - (j:Int)=(i:Int):=by omega
   have hi2:i<ds.length:=by omega
   have hm:=h.2.mem (ix_mem hi2)
   have hp:=(h.2.drop (i+1)).pos
   have hp2:=(h.2.drop (i+1)).2
   have hd:ds.drop i=ix ds (i:Int)::ds.drop (i+1):=by rw [List.drop_eq_getElem_cons hi2,ix_at hi2]
   have e5:pr (ds.drop i)=pr (ds.drop (i+1))*ix ds (i:Int):=by rw [hd]; simp [pr,Int.mul_comm]
   simp only [Z04_L1,Z04_J2,e1,e2,← hi]
   rw [if_pos (by simp),if_pos (by omega)]
   have e6:w64 ((i:Int) - 1)=(ds.length:Int) - 1 - ((j+1:Nat):Int):=by rw [w64_id (by omega) (by omega)]; omega
   by_cases c:ix ds (i:Int)>1
   ·rw [if_pos (by simp; omega),if_pos (by simp; omega),if_pos (by omega),w64_mul (by omega) (by omega) (by omega) (by omega),← e5,e6]
    congr 3
    rw [hd,List.replicate_succ',List.set_append_left _ _ (by simp),List.set_append_right _ _ (by simp)]
    simp [stp,c]
   ·rw [if_neg (by simp; omega),if_pos (by omega),w64_mul (by omega) (by omega) (by omega) (by omega),← e5,e6]
    congr 3
    rw [hd,List.replicate_succ']
    simp [stp,c])
  (by
   simp only [Z04_L1,Nat.sub_self,List.drop_zero,List.replicate_zero,List.nil_append]
   rw [if_neg (by simp; omega)])
  (s:=(List.replicate (ds.length:Int).toNat 0,1,w64 ((ds.length:Int) - 1))) (by
   rw [w64_id (by omega) (by omega)]
   simp [pr,stp])
 rw [this]
 rfl
theorem whole_i {ds:List Int}(h:OKD ds):Z2k ds=some (whole ds):=by
 have hn:=h.1
 unfold Z2k
 rw [dims_i (by unfold big; omega)]
 simp only [h,decide_true,Option.bind_some,Bool.not_true,Bool.false_eq_true,if_false]
 rw [clone_i (by omega),steps_i h,prod_i (by unfold big; omega) h.2]
 rfl
def zer (n:Nat):List Int:=List.replicate n 0
def inc:List Int→List Int→Option (List Int)
 | d::ds,i::is=>match inc ds is with
  | some q=>some (i::q)
  | none=>if i+1<d then some ((i+1)::zer ds.length) else none
 | _,_=>none
theorem inc_snoc {ds is:List Int}(h:is.length=ds.length)(d i:Int):inc (ds++[d]) (is++[i])=if i+1<d then some (is++[i+1]) else (inc ds is).map (·++[0]):=by
 induction ds generalizing is with
 | nil=>cases is with
  | nil=>simp [inc,zer]
  | cons=>simp at h
 | cons e ds ih=>cases is with
  | nil=>simp at h
  | cons j is =>
   have:=ih (is:=is) (by simpa using h)
   simp only [List.cons_append,inc,this]
   by_cases c:i+1<d
   ·simp [c]
   ·simp only [c,if_false]
    cases inc ds is with
    | some q=>simp
    | none =>
     simp only [Option.map_none]
     split
     ·simp [zer,List.replicate_succ']
     ·simp
theorem idx_zer {ds:List Int}(h:∀ d∈ds,1≤d){m:Int}(hm:m % pr ds=0):idx ds m=zer ds.length:=by
 induction ds generalizing m with
 | nil=>rfl
 | cons d ds ih =>
  have hp:1≤pr ds:=pr_pos fun x hx=>h x (by simp [hx])
  have hd:=h d (by simp)
  have e:=(two_ (k:=m) hp hd).2
  have a:=Int.emod_nonneg m (show pr ds≠0 by omega)
  have c:=Int.emod_nonneg (m / pr ds) (show d≠0 by omega)
  have e0:m % (d*pr ds)=0:=hm
  have b:=Int.mul_nonneg c (show 0≤pr ds by omega)
  have b2:=mul_ge c hp
  have e1:m % pr ds=0:=by omega
  have e2:m / pr ds % d=0:=by omega
  simp only [idx,e2,ih (fun x hx=>h x (by simp [hx])) e1]
  simp [zer,List.replicate_succ]
theorem inc_idx {ds:List Int}(h:∀ d∈ds,1≤d)(k:Int):inc ds (idx ds k)=if k % pr ds+1<pr ds then some (idx ds (k+1)) else none:=by
 induction ds generalizing k with
 | nil=>simp [inc,pr,Int.emod_one]
 | cons d ds ih =>
  have hp:1≤pr ds:=pr_pos fun x hx=>h x (by simp [hx])
  have hd:=h d (by simp)
  have h':∀ x∈ds,1≤x:=fun x hx=>h x (by simp [hx])
  have e:=(two_ (k:=k) hp hd).2
  have a:=Int.emod_nonneg k (show pr ds≠0 by omega)
  have a2:=Int.emod_lt_of_pos k (show 0<pr ds by omega)
  have c:=Int.emod_nonneg (k / pr ds) (show d≠0 by omega)
  have c2:=Int.emod_lt_of_pos (k / pr ds) (show 0<d by omega)
  have e1:=Int.mul_ediv_add_emod k (pr ds)
  have hpp:pr (d::ds)=d*pr ds:=rfl
  have b:(k / pr ds % d+1)*pr ds≤d*pr ds:=Int.mul_le_mul_of_nonneg_right (by omega) (by omega)
  rw [Int.add_mul] at b
  simp only [idx,inc,ih h']
  by_cases q:k % pr ds+1<pr ds
  ·have f:=(Int.ediv_emod_unique (a:=k+1) (b:=pr ds) (r:=k % pr ds+1) (q:=k / pr ds) (by omega)).2 ⟨by omega,by omega,by omega⟩
   simp only [if_pos q,f.1]
   rw [if_pos (show k % pr (d::ds)+1<pr (d::ds) by rw [hpp,e]; omega)]
  ·have q1:k % pr ds=pr ds - 1:=by omega
   have f:=(Int.ediv_emod_unique (a:=k+1) (b:=pr ds) (r:=0) (q:=k / pr ds+1) (by omega)).2 ⟨by rw [Int.mul_add]; omega,by omega,by omega⟩
   simp only [if_neg q,f.1]
   by_cases g:k / pr ds % d+1<d
   ·have f2:=Int.mul_ediv_add_emod (k / pr ds) d
    have f3:=(Int.ediv_emod_unique (a:=k / pr ds+1) (b:=d) (r:=k / pr ds % d+1) (q:=k / pr ds / d) (by omega)).2 ⟨by omega,by omega,by omega⟩
    have b3:(k / pr ds % d+2)*pr ds≤d*pr ds:=Int.mul_le_mul_of_nonneg_right (by omega) (by omega)
    rw [Int.add_mul] at b3
    rw [if_pos g,if_pos (show k % pr (d::ds)+1<pr (d::ds) by rw [hpp,e]; omega),f3.2,idx_zer h' f.2]
   ·have g1:k / pr ds % d=d - 1:=by omega
    have b4:k / pr ds % d*pr ds=d*pr ds - pr ds:=by rw [g1,Int.sub_mul]; omega
    rw [if_neg g,if_neg (show ¬ k % pr (d::ds)+1<pr (d::ds) by rw [hpp,e]; omega)]
theorem zs_set (f:Int→Int→Int){xs ys:List Int}{j:Nat}{a:Int}(hx:j<xs.length)(hy:j<ys.length):zs f (xs.set j a) ys=zs f xs ys - f (ix xs (j:Int)) (ix ys (j:Int))+f a (ix ys (j:Int)):=by
 induction xs generalizing ys j with
 | nil=>simp at hx
 | cons x xs ih=>cases ys with
  | nil=>simp at hy
  | cons y ys=>cases j with
   | zero=>simp [zs,ix]; omega
   | succ j =>
    rw [ix_cons,ix_cons,List.set_cons_succ]
    simp only [zs,ih (ys:=ys) (j:=j) (by simpa using hx) (by simpa using hy)]
    omega
theorem spots_in {YS:Type}{YF:YS→Int→Option (YS×Bool)}{ds ss:List Int}{off base:Int}(h:VG ds ss off base){is:List Int}(hi:IV ds is):∀ p,p≤ds.length →
  (∀ q,inc (ds.take p) (is.take p)=some q→∃ i:Int,0≤i∧loopM (fun s:List Int×Int×Int=>Z03_L2 YS YF ds ss s.1 s.2.1 s.2.2) (is.take p++zer (ds.length - p),off+zs (·*·) (is.take p++zer (ds.length - p)) ss,(p:Int) - 1)=some (q++zer (ds.length - p),off+zs (·*·) (q++zer (ds.length - p)) ss,i)) ∧
  (inc (ds.take p) (is.take p)=none→∃ x y,loopM (fun s:List Int×Int×Int=>Z03_L2 YS YF ds ss s.1 s.2.1 s.2.2) (is.take p++zer (ds.length - p),off+zs (·*·) (is.take p++zer (ds.length - p)) ss,(p:Int) - 1)=some (x,y,-1)):=by
 intro p
 have hn:=h.d.1
 have hl:=h.l
 have hil:=hi.len
 induction p with
 | zero =>
  intro _
  refine ⟨fun q hq=>by simp [inc] at hq,fun _=>⟨is.take 0++zer (ds.length - 0),off+zs (·*·) (is.take 0++zer (ds.length - 0)) ss,loopM_end ?_⟩⟩
  simp only [Z03_L2]
  rw [if_neg (by simp)]
  rfl
 | succ p ih =>
  intro hp
  obtain ⟨ih1,ih2⟩:=ih (by omega)
  have hm:=hi.mem (j:=p) (by omega)
  have hdm:=h.d.2.mem (ix_mem (xs:=ds) (k:=p) (by omega))
  have hsm:=h.s _ (ix_mem (xs:=ss) (k:=p) (by omega))
  have ti:is.take (p+1)=is.take p++[ix is (p:Int)]:=by rw [List.take_succ_eq_append_getElem (by omega),ix_at (by omega)]
  have td:ds.take (p+1)=ds.take p++[ix ds (p:Int)]:=by rw [List.take_succ_eq_append_getElem (by omega),ix_at (by omega)]
  have hlen:(is.take p).length=(ds.take p).length:=by simp; omega
  have hs:=inc_snoc hlen (ix ds (p:Int)) (ix is (p:Int))
  rw [← ti,← td] at hs
  obtain ⟨cur,hcur⟩:∃ cur,cur=is.take (p+1)++zer (ds.length - (p+1)):=⟨_,rfl⟩
  have hclen:cur.length=ds.length:=by rw [hcur]; simp [zer]; omega
  have hcp:ix cur (p:Int)=ix is (p:Int):=by
   have hpl:p<cur.length:=by omega
   rw [ix_at hpl,ix_at (by omega)]
   subst hcur
   rw [List.getElem_append_left (by simp; omega)]
   simp
  have hset:∀ a:Int,cur.set p a=is.take p++a::zer (ds.length - (p+1)):=by
   intro a
   rw [hcur,ti,List.append_assoc,List.set_append_right _ _ (by simp; omega)]
   have:p - (is.take p).length=0:=by simp; omega
   rw [this]
   rfl
  have bnd:∀ a:Int,0≤a→a<ix ds (p:Int)→0≤off+zs (·*·) (cur.set p a) ss∧off+zs (·*·) (cur.set p a) ss≤4096:=by
   intro a h0 h1
   have hIV:∀ (ds is:List Int),IV ds is→(∀ d∈ds,1≤d)→∀ p,p<ds.length→0≤a→a<ix ds (p:Int)→IV ds (is.take p++a::zer (ds.length - (p+1))):=by
    intro ds
    induction ds with
    | nil=>intro is _ _ p hp; simp at hp
    | cons d ds ihd =>
     intro is hi hpos p hp h0 h1
     cases is with
     | nil=>exact hi.elim
     | cons i is =>
      cases p with
      | zero =>
       refine ⟨⟨h0,h1⟩,?_⟩
       have hz:∀ ds:List Int,(∀ d∈ds,1≤d)→IV ds (zer ds.length):=by
        intro ds
        induction ds with
        | nil=>intro _; trivial
        | cons d ds ihz=>intro hp; exact ⟨⟨Int.le_refl 0,by have:=hp d (by simp); omega⟩,ihz fun x hx=>hp x (by simp [hx])⟩
       exact hz ds fun x hx=>hpos x (by simp [hx])
      | succ p =>
       rw [ix_cons] at h1
       have:=ihd is hi.2 (fun x hx=>hpos x (by simp [hx])) p (by simpa using hp) h0 h1
       refine ⟨hi.1,?_⟩
       simpa using this
   have:=h.place (hIV ds is hi h.d.2.1 p (by omega) h0 h1)
   have:=h.b
   rw [hset]
   omega
  have hz1:=fun a=>zs_set (·*·) (xs:=cur) (ys:=ss) (j:=p) (a:=a) (by omega) (by omega)
  rw [hcp] at hz1
  have b0:=bnd (ix is (p:Int)) hm.1 hm.2
  have e0:cur.set p (ix is (p:Int))=cur:=by rw [hset,hcur,ti]; simp
  rw [e0] at b0
  have hF:Z03_L2 YS YF ds ss cur (off+zs (·*·) cur ss) ((p+1:Nat) - 1:Int)=if ix is (p:Int)+1<ix ds (p:Int) then some (.inr (cur.set p (ix is (p:Int)+1),off+zs (·*·) (cur.set p (ix is (p:Int)+1)) ss,(p:Int))) else some (.inl (cur.set p 0,off+zs (·*·) (cur.set p 0) ss,(p:Int) - 1)):=by
   have ep:((p+1:Nat) - 1:Int)=(p:Int):=by omega
   have w1:w64 (ix is (p:Int)+1)=ix is (p:Int)+1:=w64_id (by omega) (by omega)
   have w2:w64 (off+zs (·*·) cur ss+ix ss (p:Int))=off+zs (·*·) cur ss+ix ss (p:Int):=w64_id (by omega) (by omega)
   have mb:=mul_bd (a:=ix ds (p:Int)) (b:=ix ss (p:Int)) (M:=4096) (N:=4096) (by omega) (by omega) hsm.1 hsm.2 (by omega)
   rw [Int.mul_comm (ix ds (p:Int))] at mb
   have w3:w64 (ix ss (p:Int)*ix ds (p:Int))=ix ss (p:Int)*ix ds (p:Int):=w64_id (by omega) (by omega)
   have e1:ix (cur.set p (ix is (p:Int)+1)) (p:Int)=ix is (p:Int)+1:=by rw [ix_at (by simp; omega)]; simp
   rw [ep]
   simp only [Z03_L2,Int.toNat_natCast,hcp,w1,w2,w3,e1]
   rw [if_pos (by simp),if_pos (by simp; omega),if_pos (by omega),if_pos (by omega)]
   by_cases c:ix is (p:Int)+1<ix ds (p:Int)
   ·rw [if_pos (by simpa using c),if_pos c,hz1 (ix is (p:Int)+1),Int.add_mul]
    congr 4
    omega
   ·rw [if_neg (by simpa using c),if_neg c]
    have em:ix ss (p:Int)*ix ds (p:Int)=ix is (p:Int)*ix ss (p:Int)+ix ss (p:Int):=by
     rw [show ix ds (p:Int)=ix is (p:Int)+1 by omega,Int.mul_add,Int.mul_comm]; omega
    have bz:=bnd 0 (by omega) (by omega)
    have z0:=hz1 0
    simp only [Int.zero_mul] at z0
    rw [nm,Option.bind_some,List.set_set,w64_id (by omega) (by omega),w64_id (by omega) (by omega),z0]
    congr 4
    omega
  rw [← hcur]
  by_cases c:ix is (p:Int)+1<ix ds (p:Int)
  ·rw [if_pos c] at hF hs
   refine ⟨fun q hq=>⟨(p:Int),by omega,?_⟩,fun hq=>by rw [hs] at hq; cases hq⟩
   rw [hs] at hq
   cases hq
   rw [loopM_end hF,hset]
   simp
  ·rw [if_neg c] at hF hs
   have e2:cur.set p 0=is.take p++zer (ds.length - p):=by
    rw [hset,show ds.length - p=(ds.length - (p+1))+1 by omega]; rfl
   rw [e2] at hF
   rw [loopM_next hF]
   refine ⟨fun q hq=>?_,fun hq=>ih2 (by rw [hs] at hq; simpa using hq)⟩
   rw [hs] at hq
   cases e:inc (ds.take p) (is.take p) with
   | none=>rw [e] at hq; cases hq
   | some q' =>
    rw [e] at hq
    cases hq
    obtain ⟨i,h1,h2⟩:=ih1 q' e
    refine ⟨i,h1,?_⟩
    rw [h2]
    have:zer (ds.length - p)=0::zer (ds.length - (p+1)):=by rw [show ds.length - p=(ds.length - (p+1))+1 by omega]; rfl
    rw [this]
    simp
theorem spots_all {YS:Type}{YF:YS→Int→Option (YS×Bool)}{ds ss:List Int}{off base:Int}(h:VG ds ss off base)(I:Nat→YS→Prop)
  (hy:∀ (k:Nat) y,(k:Int)<pr ds→I k y→∃ y',YF y (off+zs (·*·) (idx ds (k:Int)) ss)=some (y',true)∧I (k+1) y') {y:YS} (h0:I 0 y) :
  ∃ y',Z03 YS YF y ds off ss=some y'∧I (pr ds).toNat y':=by
 have hn:=h.d.1
 have hp:=h.d.2.pos
 unfold Z03
 rw [if_pos (by omega)]
 have key:∀ m k y,k+1+m=(pr ds).toNat→I k y→∃ y',loopM (fun s:List Int×Int×YS=>Z03_L1 YS YF ds ss s.1 s.2.1 s.2.2) (idx ds (k:Int),off+zs (·*·) (idx ds (k:Int)) ss,y)=some y'∧I (pr ds).toNat y':=by
  intro m
  induction m with
  | zero =>
   intro k y hk hI
   obtain ⟨y',h1,h2⟩:=hy k y (by omega) hI
   obtain ⟨_,hb⟩:=spots_in (YF:=YF) h (idx_IV h.d.2.1 (k:Int)) ds.length (Nat.le_refl _)
   rw [List.take_length,List.take_of_length_le (by rw [idx_len]; omega),Nat.sub_self] at hb
   have e:inc ds (idx ds (k:Int))=none:=by
    rw [inc_idx h.d.2.1,Int.emod_eq_of_lt (by omega) (by omega),if_neg (by omega)]
   obtain ⟨x,z,hl⟩:=hb e
   refine ⟨y',loopM_end ?_,by rw [show (pr ds).toNat=k+1 by omega]; exact h2⟩
   simp only [Z03_L1,h1,Option.bind_some,Bool.not_true,Bool.false_eq_true,if_false]
   rw [w64_id (by omega) (by omega)]
   simp only [zer,List.replicate_zero,List.append_nil] at hl
   rw [hl]
   rfl
  | succ m ih =>
   intro k y hk hI
   obtain ⟨y',h1,h2⟩:=hy k y (by omega) hI
   obtain ⟨hb,_⟩:=spots_in (YF:=YF) h (idx_IV h.d.2.1 (k:Int)) ds.length (Nat.le_refl _)
   rw [List.take_length,List.take_of_length_le (by rw [idx_len]; omega),Nat.sub_self] at hb
   have e:inc ds (idx ds (k:Int))=some (idx ds ((k:Int)+1)):=by
    rw [inc_idx h.d.2.1,Int.emod_eq_of_lt (by omega) (by omega),if_pos (by omega)]
   obtain ⟨i,hi,hl⟩:=hb _ e
   have e1:(k:Int)+1=((k+1:Nat):Int):=by omega
   have hz:=loopM_next (f:=fun s:List Int×Int×YS=>Z03_L1 YS YF ds ss s.1 s.2.1 s.2.2) (s:=(idx ds (k:Int),off+zs (·*·) (idx ds (k:Int)) ss,y)) (s':=(idx ds ((k+1:Nat):Int),off+zs (·*·) (idx ds ((k+1:Nat):Int)) ss,y')) (by
    simp only [Z03_L1,h1,Option.bind_some,Bool.not_true,Bool.false_eq_true,if_false]
    rw [w64_id (by omega) (by omega)]
    simp only [zer,List.replicate_zero,List.append_nil] at hl
    rw [hl,e1]
    simp only [Option.bind_some,Z03_J2]
    rw [if_neg (by simp; omega)])
   rw [hz]
   exact ih (k+1) y' (by omega) h2
 obtain ⟨y',h1,h2⟩:=key ((pr ds).toNat - 1) 0 y (by omega) h0
 refine ⟨y',?_,h2⟩
 have e:idx ds ((0:Nat):Int)=zer ds.length:=idx_zer h.d.2.1 (by simp)
 have ez:∀ (n:Nat) (ss:List Int),zs (·*·) (zer n) ss=0:=by
  intro n
  induction n with
  | zero=>intro ss; simp [zer,zs]
  | succ n ihn=>intro ss; cases ss with
   | nil=>simp [zer,zs]
   | cons s ss=>have:=ihn ss; simp only [zer,List.replicate_succ,zs] at this ⊢; rw [this]; simp
 rw [e,ez] at h1
 have e2:(ds.length:Int).toNat=ds.length:=by omega
 rw [e2]
 simp only [Int.add_zero] at h1
 rw [show List.replicate ds.length (0:Int)=zer ds.length from rfl,h1]
 rfl
theorem pairs_i {v:View}(h:VG v.Dims v.Strides v.Offset v.Base):∃ ps,Z2d v=some (v.Dims,ps,true):=by
 have hp2:=h.d.2.2
 unfold Z2d
 rw [view_i h]
 simp only [Option.bind_some,Bool.not_true,Bool.false_eq_true,if_false,Z30]
 obtain ⟨ps,h1,_⟩:=spots_all (YF:=fun (s:List pair) (x:Int)=>Z3o s x) h (fun k (y:List pair)=>y.length=k) (fun k y hk hI=>by
  simp only [Z3o]
  rw [if_pos (by simp; omega)]
  exact ⟨_,rfl,by simp [hI]⟩) (y:=[]) rfl
 exact ⟨ps,by rw [h1]; rfl⟩
def spOk:List Int→List Int→Bool
 | a::xs,b::ys=>(a==b||a==1)&&spOk xs ys
 | _,_=>true
def spS:List Int→List Int→List Int→List Int
 | a::xs,b::ys,s::ss=>(if a=b then s else 0)::spS xs ys ss
 | _,_,_=>[]
theorem spS_len {xs ys ss:List Int}(h1:ys.length=xs.length)(h2:ss.length=xs.length):(spS xs ys ss).length=xs.length:=by
 induction xs generalizing ys ss with
 | nil=>rfl
 | cons a xs ih=>cases ys with
  | nil=>simp at h1
  | cons b ys=>cases ss with
   | nil=>simp at h2
   | cons s ss=>simp only [spS,List.length_cons]; rw [ih (by simpa using h1) (by simpa using h2)]
theorem ix_spS {xs ys ss:List Int}(h1:ys.length=xs.length)(h2:ss.length=xs.length){j:Nat}(hj:j<xs.length):ix (spS xs ys ss) (j:Int)=if ix xs (j:Int)=ix ys (j:Int) then ix ss (j:Int) else 0:=by
 induction xs generalizing ys ss j with
 | nil=>simp at hj
 | cons a xs ih=>cases ys with
  | nil=>simp at h1
  | cons b ys=>cases ss with
   | nil=>simp at h2
   | cons s ss=>cases j with
    | zero=>rfl
    | succ j=>rw [spS,ix_cons,ix_cons,ix_cons,ix_cons,ih (by simpa using h1) (by simpa using h2) (by simpa using hj)]
theorem spOk_at {xs ys:List Int}(h1:ys.length=xs.length)(h:spOk xs ys=true){j:Nat}(hj:j<xs.length):ix xs (j:Int)=ix ys (j:Int)∨ix xs (j:Int)=1:=by
 induction xs generalizing ys j with
 | nil=>simp at hj
 | cons a xs ih=>cases ys with
  | nil=>simp at h1
  | cons b ys =>
   simp only [spOk,Bool.and_eq_true,Bool.or_eq_true,beq_iff_eq] at h
   cases j with
   | zero=>exact h.1
   | succ j=>rw [ix_cons,ix_cons]; exact ih (by simpa using h1) h.2 (by simpa using hj)
theorem spOk_no {xs ys:List Int}(h1:ys.length=xs.length)(h:spOk xs ys=false):∃ m,m<xs.length∧ix xs (m:Int)≠ix ys (m:Int)∧ix xs (m:Int)≠1∧∀ j:Nat,j<m→ix xs (j:Int)=ix ys (j:Int)∨ix xs (j:Int)=1:=by
 induction xs generalizing ys with
 | nil=>simp [spOk] at h
 | cons a xs ih=>cases ys with
  | nil=>simp at h1
  | cons b ys =>
   by_cases c:a=b∨a=1
   ·have:spOk xs ys=false:=by
     simp only [spOk] at h
     rcases c with c | c<;>simpa [c] using h
    obtain ⟨m,h3,h4,h5,h6⟩:=ih (by simpa using h1) this
    refine ⟨m+1,by simpa using h3,by rw [ix_cons,ix_cons]; exact h4,by rw [ix_cons]; exact h5,?_⟩
    intro j hj
    cases j with
    | zero=>exact c
    | succ j=>rw [ix_cons,ix_cons]; exact h6 j (by omega)
   ·exact ⟨0,by simp,fun e=>c (.inl e),fun e=>c (.inr e),fun j hj=>by omega⟩
theorem zs_app (f:Int→Int→Int){a b c e:List Int}(h:a.length=b.length):zs f (a++c) (b++e)=zs f a b+zs f c e:=by
 induction a generalizing b with
 | nil=>cases b with
  | nil=>simp [zs]
  | cons=>simp at h
 | cons x a ih=>cases b with
  | nil=>simp at h
  | cons y b=>simp only [List.cons_append,zs,ih (b:=b) (by simpa using h)]; omega
theorem zs_zer (f:Int→Int→Int)(hf:∀ d,f d 0=0)(ds:List Int)(n:Nat):zs f ds (zer n)=0:=by
 induction ds generalizing n with
 | nil=>simp [zs]
 | cons d ds ih=>cases n with
  | zero=>simp [zer,zs]
  | succ n=>have:=ih n; simp only [zer,List.replicate_succ,zs,hf] at this ⊢; omega
theorem hw0 (d:Int):hw d 0=0:=by simp [hw]
theorem lw_pos {d s:Int}(hd:1≤d)(hs:0≤s):lw d s=0:=by
 have:=Int.mul_nonneg hs (show 0≤d - 1 by omega)
 unfold lw; split<;>omega
theorem hw_pos {d s:Int}(hd:1≤d)(hs:0≤s):hw d s=s*(d - 1):=by
 have:=Int.mul_nonneg hs (show 0≤d - 1 by omega)
 unfold hw; split<;>omega
theorem zs_lw0 {ds ss:List Int}(hd:∀ d∈ds,1≤d)(hs:∀ s∈ss,0≤s):zs lw ds ss=0:=by
 induction ds generalizing ss with
 | nil=>simp [zs]
 | cons d ds ih=>cases ss with
  | nil=>simp [zs]
  | cons s ss =>
   simp only [zs,lw_pos (hd d (by simp)) (hs s (by simp)),ih (ss:=ss) (fun x hx=>hd x (by simp [hx])) (fun x hx=>hs x (by simp [hx]))]
   omega
theorem spS_hw {xs ys ss:List Int}(hx:∀ d∈xs,1≤d)(hy:∀ d∈ys,1≤d)(hs:∀ s∈ss,0≤s):zs hw ys (spS xs ys ss)≤zs hw xs ss∧∀ s∈spS xs ys ss,0≤s:=by
 induction xs generalizing ys ss with
 | nil=>cases ys<;>simp [spS,zs]
 | cons a xs ih=>cases ys with
  | nil =>
   refine ⟨?_,by simp [spS]⟩
   have key:∀ (xs ss:List Int),(∀ d∈xs,1≤d)→(∀ s∈ss,0≤s)→0≤zs hw xs ss:=by
    intro xs
    induction xs with
    | nil=>intro ss _ _; simp [zs]
    | cons d ds ihh=>intro ss h1 h2; cases ss with
     | nil=>simp [zs]
     | cons s ss =>
      have:=ihh ss (fun x hx=>h1 x (by simp [hx])) (fun x hx=>h2 x (by simp [hx]))
      have h3:=hw_pos (h1 d (by simp)) (h2 s (by simp))
      have h4:=Int.mul_nonneg (h2 s (by simp)) (show 0≤d - 1 by have:=h1 d (by simp); omega)
      simp only [zs]; omega
   simpa [zs] using key (a::xs) ss hx hs
  | cons b ys=>cases ss with
   | nil=>simp [spS,zs]
   | cons s ss =>
    obtain ⟨h1,h2⟩:=ih (ys:=ys) (ss:=ss) (fun x h=>hx x (by simp [h])) (fun x h=>hy x (by simp [h])) (fun x h=>hs x (by simp [h]))
    have ha:=hx a (by simp)
    have hb:=hy b (by simp)
    have hs0:=hs s (by simp)
    have e1:=hw_pos ha hs0
    have e2:=Int.mul_nonneg hs0 (show 0≤a - 1 by omega)
    refine ⟨?_,?_⟩
    ·simp only [spS,zs]
     split
     ·rename_i c; subst c; omega
     ·rw [hw0]; omega
    ·simp only [spS]
     refine List.forall_mem_cons.2 ⟨?_,h2⟩
     split<;>omega
theorem VG_wh {ds:List Int}(h:OKD ds):VG (whole ds).Dims (whole ds).Strides (whole ds).Offset (whole ds).Base:=VG_whole h
def spL (ds d:List Int):List Int:=zer (d.length - ds.length)++spS ds (d.drop (d.length - ds.length)) (stp ds)
theorem VG_spread {ds d:List Int}(h:OKD ds)(hd:OKD d)(hl:ds.length≤d.length):VG d (spL ds d) 0 (pr ds):=by
 have hp:=h.2.pos
 have hp2:=h.2.2
 have hdr:(d.drop (d.length - ds.length)).length=ds.length:=by simp; omega
 have hs0:∀ s∈stp ds,0≤s:=fun s hs=>(stp_mem h.2 s hs).1
 obtain ⟨h1,h2⟩:=spS_hw (ys:=d.drop (d.length - ds.length)) h.2.1 (fun x hx=>hd.2.1 x (List.mem_of_mem_drop hx)) hs0
 have hnn:∀ s∈spL ds d,0≤s:=by
  intro s hs
  rcases List.mem_append.1 hs with hs | hs
  ·have:=(List.mem_replicate.1 hs).2; omega
  ·exact h2 s hs
 have hd2:d=d.take (d.length - ds.length)++d.drop (d.length - ds.length):=(List.take_append_drop _ _).symm
 have hsum:zs hw d (spL ds d)≤pr ds - 1:=by
  have e:zs hw d (spL ds d)=zs hw (d.take (d.length - ds.length)++d.drop (d.length - ds.length)) (spL ds d):=by rw [List.take_append_drop]
  rw [e,spL,zs_app _ (by simp [zer]),zs_zer _ hw0,← whole_hw h.2]
  omega
 refine ⟨hd,by simp only [spL,List.length_append,spS_len hdr (stp_len ds)]; simp [zer]; omega,⟨hp,hp2⟩,⟨by omega,by omega⟩,?_,?_,by omega⟩
 ·intro s hs
  refine ⟨by have:=hnn s hs; omega,?_⟩
  rcases List.mem_append.1 hs with hs | hs
  ·have:=(List.mem_replicate.1 hs).2; omega
  ·have key:∀ (xs ys ss:List Int),(∀ s∈ss,s≤4096)→∀ s∈spS xs ys ss,s≤4096:=by
    intro xs
    induction xs with
    | nil=>intro ys ss _ s hs; cases ys<;>simp [spS] at hs
    | cons a xs ih=>intro ys ss hss; cases ys with
     | nil=>simp [spS]
     | cons b ys=>cases ss with
      | nil=>simp [spS]
      | cons t ss =>
       simp only [spS]
       refine List.forall_mem_cons.2 ⟨?_,ih ys ss fun x hx=>hss x (by simp [hx])⟩
       have:=hss t (by simp)
       split<;>omega
   exact key _ _ _ (fun s hs=>(stp_mem h.2 s hs).2) s hs
 ·rw [zs_lw0 hd.2.1 hnn]; omega
theorem more_ix {ds d:List Int}(hl:ds.length≤d.length)(hd6:d.length≤6){j:Nat}(hj:j<ds.length):w64 (w64 ((d.length:Int) - (ds.length:Int))+(j:Int))=((d.length - ds.length+j:Nat):Int)∧ix d ((d.length - ds.length+j:Nat):Int)=ix (d.drop (d.length - ds.length)) (j:Int):=by
 refine ⟨by rw [w64_id (n:=(d.length:Int) - ds.length) (by omega) (by omega),w64_id (by omega) (by omega)]; omega,?_⟩
 rw [ix_at (by omega),ix_at (by simp; omega)]
 simp
theorem spL_at {ds d:List Int}(hl:ds.length≤d.length){j:Nat}(hj:j<ds.length):ix (spL ds d) ((d.length - ds.length+j:Nat):Int)=if ix ds (j:Int)=ix (d.drop (d.length - ds.length)) (j:Int) then ix (stp ds) (j:Int) else 0:=by
 have hdr:(d.drop (d.length - ds.length)).length=ds.length:=by simp; omega
 rw [← ix_spS hdr (stp_len ds) hj,ix_at (by simp only [spL,List.length_append,spS_len hdr (stp_len ds)]; simp [zer]; omega),ix_at (by rw [spS_len hdr (stp_len ds)]; omega)]
 simp only [spL]
 rw [List.getElem_append_right (by simp [zer])]
 simp [zer]
theorem spread_st {ds d:List Int}(h:OKD ds)(hl:ds.length≤d.length){j:Nat}(hj:j<ds.length) :
  (ix ds (j:Int)=ix (d.drop (d.length - ds.length)) (j:Int)→((spL ds d).take (d.length - ds.length+j)++(zer d.length).drop (d.length - ds.length+j)).set (d.length - ds.length+j) (ix (stp ds) (j:Int))=(spL ds d).take (d.length - ds.length+(j+1))++(zer d.length).drop (d.length - ds.length+(j+1))) ∧
  (ix ds (j:Int)≠ix (d.drop (d.length - ds.length)) (j:Int)→(spL ds d).take (d.length - ds.length+j)++(zer d.length).drop (d.length - ds.length+j)=(spL ds d).take (d.length - ds.length+(j+1))++(zer d.length).drop (d.length - ds.length+(j+1))):=by
 have hdr:(d.drop (d.length - ds.length)).length=ds.length:=by simp; omega
 have hL:(spL ds d).length=(zer d.length).length:=by simp only [spL,List.length_append,spS_len hdr (stp_len ds)]; simp [zer]; omega
 have hz:(zer d.length).length=d.length:=by simp [zer]
 have e:=spL_at hl hj
 constructor
 ·intro c
  rw [if_pos c] at e
  have:=td_set hL (j:=d.length - ds.length+j) (by omega)
  rw [e] at this
  exact this
 ·intro c
  rw [if_neg c] at e
  refine td_same hL (by omega) ?_
  rw [e,ix_at (by omega)]
  simp [zer]
theorem spread_s {ds d:List Int}(h:OKD ds)(hb:d.length<big):Z02 (whole ds) d=some (if OKD d∧ds.length≤d.length∧spOk ds (d.drop (d.length - ds.length))=true then ⟨d,spL ds d,0,pr ds⟩ else noView):=by
 have hn:=h.1
 have hn2:(whole ds).Dims=ds:=rfl
 have hn3:(whole ds).Strides=stp ds:=rfl
 have hn4:=stp_len ds
 unfold Z02
 rw [view_s (VG_wh h)]
 simp only [Option.bind_some,gcall,Bool.not_true,Bool.not_false,cond_true,Bool.false_or,dims_s hb]
 by_cases hd:OKD d
 ·have hd6:=hd.1
  simp only [hd,decide_true,Bool.not_true,Bool.false_or,hn2,true_and]
  by_cases hl:ds.length≤d.length
  ·rw [if_neg (by rw [w64_id (by omega) (by omega)]; simp; omega),ints_s (by omega)]
   simp only [Option.bind_some]
   rw [if_pos (by omega)]
   have hdr:(d.drop (d.length - ds.length)).length=ds.length:=by simp; omega
   have hstep:∀ j:Nat,j<ds.length→(ix ds (j:Int)=ix (d.drop (d.length - ds.length)) (j:Int)∨ix ds (j:Int)=1)→(fun s:List Int×Int=>Z02_L1 (whole ds) d s.1 s.2) ((spL ds d).take (d.length - ds.length+j)++(zer d.length).drop (d.length - ds.length+j),(j:Int))=some (.inl ((spL ds d).take (d.length - ds.length+(j+1))++(zer d.length).drop (d.length - ds.length+(j+1)),((j+1:Nat):Int))):=by
    intro j hj hc
    obtain ⟨m1,m2⟩:=more_ix (ds:=ds) hl hd6 hj
    obtain ⟨s1,s2⟩:=spread_st (d:=d) h hl hj
    simp only [Z02_L1,Z02_J2,hn2,hn3,m1,m2]
    rw [if_pos (by simp; omega),if_pos (by omega),if_pos (by omega)]
    by_cases c:ix ds (j:Int)=ix (d.drop (d.length - ds.length)) (j:Int)
    ·rw [if_pos (by simp [c]),if_pos (by omega),if_pos (by simp; omega),Int.toNat_natCast,s1 c,w64k (by unfold big; omega)]
     rfl
    ·rw [if_neg (by simp [c]),if_neg (by simp [hc.resolve_left c]),s2 c,w64k (by unfold big; omega)]
   have h0:(List.replicate (d.length:Int).toNat (0:Int),(0:Int))=((spL ds d).take (d.length - ds.length+0)++(zer d.length).drop (d.length - ds.length+0),((0:Nat):Int)):=by
    simp only [spL,Nat.add_zero]
    rw [List.take_append_of_le_length (by simp [zer]),List.take_of_length_le (by simp [zer])]
    simp [zer]
   by_cases c:spOk ds (d.drop (d.length - ds.length))=true
   ·have:=loopN (f:=fun s:List Int×Int=>Z02_L1 (whole ds) d s.1 s.2) (r:=.inr (spL ds d)) (fun j=>((spL ds d).take (d.length - ds.length+j)++(zer d.length).drop (d.length - ds.length+j),(j:Int))) ds.length
     (fun j hj=>hstep j hj (spOk_at hdr c hj))
     (by
      simp only [Z02_L1,hn2]
      rw [if_neg (by simp),show d.length - ds.length+ds.length=d.length by omega,List.take_of_length_le (by simp only [spL,List.length_append,spS_len hdr (stp_len ds)]; simp [zer]; omega),List.drop_of_length_le (by simp [zer])]
      simp) h0
    rw [this]
    simp [c,hl,Z02_J3]
    exact ⟨rfl,rfl⟩
   ·obtain ⟨m,g1,g2,g3,g4⟩:=spOk_no hdr (by simpa using c)
    have:=loopN (f:=fun s:List Int×Int=>Z02_L1 (whole ds) d s.1 s.2) (r:=.inl noView) (fun j=>((spL ds d).take (d.length - ds.length+j)++(zer d.length).drop (d.length - ds.length+j),(j:Int))) m
     (fun j hj=>hstep j (by omega) (g4 j hj))
     (by
      obtain ⟨m1,m2⟩:=more_ix (ds:=ds) hl hd6 g1
      simp only [Z02_L1,hn2,m1,m2]
      rw [if_pos (by simp; omega),if_pos (by omega),if_pos (by omega),if_neg (by simp [g2]),if_pos (by simp [g3])]
      rfl) h0
    rw [this]
    simp [c]
  ·rw [if_pos (by rw [w64_id (by unfold big at hb; omega) (by unfold big at hb; omega)]; simp; omega)]
   simp [hl,noView]
 ·simp [hd,noView]
theorem spread_i {ds d:List Int}(h:OKD ds)(hb:d.length<big):Z2b (whole ds) d=some (if OKD d∧ds.length≤d.length∧spOk ds (d.drop (d.length - ds.length))=true then ⟨d,spL ds d,0,pr ds⟩ else noView):=by
 have hn:=h.1
 have hn2:(whole ds).Dims=ds:=rfl
 have hn3:(whole ds).Strides=stp ds:=rfl
 have hn4:=stp_len ds
 unfold Z2b Z32
 rw [view_i (VG_wh h)]
 simp only [Option.bind_some,Bool.not_true,Bool.false_eq_true,if_false]
 rw [clone_i (by rw [hn2]; omega),clone_i (by rw [hn3]; omega)]
 simp only [Option.bind_some]
 unfold Z07
 rw [dims_i hb]
 simp only [Option.bind_some]
 by_cases hd:OKD d
 ·have hd6:=hd.1
  simp only [hd,decide_true,Bool.not_true,Bool.false_or,hn2,true_and]
  by_cases hl:ds.length≤d.length
  ·rw [if_neg (by simp; omega),clone_i (by omega)]
   simp only [Option.bind_some]
   rw [if_pos (by omega)]
   have hdr:(d.drop (d.length - ds.length)).length=ds.length:=by simp; omega
   have hstep:∀ j:Nat,j<ds.length→(ix ds (j:Int)=ix (d.drop (d.length - ds.length)) (j:Int)∨ix ds (j:Int)=1)→(fun s:List Int×Int=>Z07_L1 ⟨ds,(whole ds).Strides,(whole ds).Offset,(whole ds).Base⟩ d (whole ds) d s.1 s.2) ((spL ds d).take (d.length - ds.length+j)++(zer d.length).drop (d.length - ds.length+j),(j:Int))=some (.inl ((spL ds d).take (d.length - ds.length+(j+1))++(zer d.length).drop (d.length - ds.length+(j+1)),((j+1:Nat):Int))):=by
    intro j hj hc
    obtain ⟨m1,m2⟩:=more_ix (ds:=ds) hl hd6 hj
    obtain ⟨s1,s2⟩:=spread_st (d:=d) h hl hj
    simp only [Z07_L1,Z07_J2,hn2,hn3,m1,m2]
    rw [if_pos (by simp; omega),if_pos (by omega),if_pos (by omega)]
    by_cases c:ix ds (j:Int)=ix (d.drop (d.length - ds.length)) (j:Int)
    ·rw [if_pos (by simp [c]),if_pos (by omega),if_pos (by simp; omega),Int.toNat_natCast,s1 c,w64k (by unfold big; omega)]
     rfl
    ·rw [if_neg (by simp [c]),if_neg (by simp [hc.resolve_left c]),s2 c,w64k (by unfold big; omega)]
   have h0:(List.replicate (d.length:Int).toNat (0:Int),(0:Int))=((spL ds d).take (d.length - ds.length+0)++(zer d.length).drop (d.length - ds.length+0),((0:Nat):Int)):=by
    simp only [spL,Nat.add_zero]
    rw [List.take_append_of_le_length (by simp [zer]),List.take_of_length_le (by simp [zer])]
    simp [zer]
   by_cases c:spOk ds (d.drop (d.length - ds.length))=true
   ·have:=loopN (f:=fun s:List Int×Int=>Z07_L1 ⟨ds,(whole ds).Strides,(whole ds).Offset,(whole ds).Base⟩ d (whole ds) d s.1 s.2) (r:=.inr (spL ds d)) (fun j=>((spL ds d).take (d.length - ds.length+j)++(zer d.length).drop (d.length - ds.length+j),(j:Int))) ds.length
     (fun j hj=>hstep j hj (spOk_at hdr c hj))
     (by
      simp only [Z07_L1,hn2]
      rw [if_neg (by simp),show d.length - ds.length+ds.length=d.length by omega,List.take_of_length_le (by simp only [spL,List.length_append,spS_len hdr (stp_len ds)]; simp [zer]; omega),List.drop_of_length_le (by simp [zer])]
      simp) h0
    rw [this,if_pos ⟨hl,c⟩]
    simp only [Option.bind_some,Z07_J3,gcall,Bool.not_true,Bool.not_false,cond_true]
    rw [view_i (v:=⟨d,spL ds d,(whole ds).Offset,(whole ds).Base⟩) (VG_spread h hd hl)]
    rfl
   ·obtain ⟨m,g1,g2,g3,g4⟩:=spOk_no hdr (by simpa using c)
    have:=loopN (f:=fun s:List Int×Int=>Z07_L1 ⟨ds,(whole ds).Strides,(whole ds).Offset,(whole ds).Base⟩ d (whole ds) d s.1 s.2) (r:=.inl (false,⟨d,(spL ds d).take (d.length - ds.length+m)++(zer d.length).drop (d.length - ds.length+m),(whole ds).Offset,(whole ds).Base⟩)) (fun j=>((spL ds d).take (d.length - ds.length+j)++(zer d.length).drop (d.length - ds.length+j),(j:Int))) m
     (fun j hj=>hstep j (by omega) (g4 j hj))
     (by
      obtain ⟨m1,m2⟩:=more_ix (ds:=ds) hl hd6 g1
      simp only [Z07_L1,hn2,m1,m2]
      rw [if_pos (by simp; omega),if_pos (by omega),if_pos (by omega),if_neg (by simp [g2]),if_pos (by simp [g3])]) h0
    rw [this,if_neg (fun q=>c q.2)]
    simp [gcall,noView]
  ·rw [if_pos (by simp; omega),if_neg (fun q=>hl q.1)]
   simp [gcall,noView]
 ·simp [hd,gcall,noView]
theorem viewNo_s {v:View}(hb:v.Dims.length<big)(h:¬ OKD v.Dims):Z8 v=some false:=by
 unfold Z8
 rw [dims_s hb]
 simp [h]
theorem viewNo_i {v:View}(hb:v.Dims.length<big)(h:¬ OKD v.Dims):Zf v=some false:=by
 unfold Zf
 rw [dims_i hb]
 simp [h]
def SlOk (ds:List Int)(a fr c st:Int):Prop:=0≤a∧a<(ds.length:Int)∧1≤c∧c≤4096∧1≤st∧st≤4096∧0≤fr∧fr<ix ds a∧fr+(c - 1)*st<ix ds a
instance (ds:List Int)(a fr c st:Int):Decidable (SlOk ds a fr c st):=by unfold SlOk; infer_instance
theorem ix_set {xs:List Int}{j:Nat}{a:Int}(h:j<xs.length):ix (xs.set j a) (j:Int)=a:=by rw [ix_at (by simpa using h)]; simp
theorem zs_set2 (f:Int→Int→Int){xs ys:List Int}{j:Nat}{a b:Int}(hx:j<xs.length)(hy:j<ys.length):zs f (xs.set j a) (ys.set j b)=zs f xs ys - f (ix xs (j:Int)) (ix ys (j:Int))+f a b:=by
 induction xs generalizing ys j with
 | nil=>simp at hx
 | cons x xs ih=>cases ys with
  | nil=>simp at hy
  | cons y ys=>cases j with
   | zero=>simp [zs,ix]; omega
   | succ j =>
    rw [ix_cons,ix_cons,List.set_cons_succ,List.set_cons_succ]
    simp only [zs,ih (ys:=ys) (j:=j) (by simpa using hx) (by simpa using hy)]
    omega
theorem pr_set {ds:List Int}(h:∀ d∈ds,1≤d){j:Nat}(hj:j<ds.length){c:Int}(h1:1≤c)(h2:c≤ix ds (j:Int)):pr (ds.set j c)≤pr ds∧∀ d∈ds.set j c,1≤d:=by
 induction ds generalizing j with
 | nil=>simp at hj
 | cons d ds ih =>
  have hp:1≤pr ds:=pr_pos fun x hx=>h x (by simp [hx])
  cases j with
  | zero =>
   have h2:c≤d:=h2
   refine ⟨Int.mul_le_mul_of_nonneg_right h2 (by omega),List.forall_mem_cons.2 ⟨h1,fun x hx=>h x (by simp [hx])⟩⟩
  | succ j =>
   rw [ix_cons] at h2
   obtain ⟨a,b⟩:=ih (fun x hx=>h x (by simp [hx])) (by simpa using hj) h2
   have hd:=h d (by simp)
   exact ⟨Int.mul_le_mul_of_nonneg_left a (by omega),List.forall_mem_cons.2 ⟨hd,b⟩⟩
theorem mem_set_of {xs:List Int}{j:Nat}{a:Int}{P:Int→Prop}(h:∀ x∈xs,P x)(ha:P a):∀ x∈xs.set j a,P x:=by
 intro x hx
 rcases List.mem_or_eq_of_mem_set hx with hx | rfl
 ·exact h x hx
 ·exact ha
theorem VG_cut {ds:List Int}(h:OKD ds){j:Nat}(hj:j<ds.length){fr c st:Int}(hc:1≤c)(hst:0≤st)(hfr:0≤fr)(hl:fr+(c - 1)*st<ix ds (j:Int))(hcd:c≤ix ds (j:Int))(hs1:c=1→st=0) :
  VG (ds.set j c) ((stp ds).set j (ix (stp ds) (j:Int)*st)) (0+fr*ix (stp ds) (j:Int)) (pr ds):=by
 have hp:=h.2.pos
 have hp2:=h.2.2
 obtain ⟨q1,q2⟩:=pr_set h.2.1 hj hc hcd
 have hm:=h.2.mem (ix_mem hj)
 have hlen:=stp_len ds
 have hs:=stp_mem h.2 _ (ix_mem (xs:=stp ds) (k:=j) (by omega))
 obtain ⟨s,hse⟩:∃ s,s=ix (stp ds) (j:Int):=⟨_,rfl⟩
 rw [← hse] at hs ⊢
 have hall:∀ x∈stp ds,0≤x∧x≤4096:=stp_mem h.2
 have hsum:=whole_hw h.2
 have k0:0≤(c - 1)*st:=Int.mul_nonneg (by omega) hst
 have k1:s*(fr+(c - 1)*st)≤s*(ix ds (j:Int) - 1):=Int.mul_le_mul_of_nonneg_left (by omega) hs.1
 have k2:s*(fr+(c - 1)*st)=fr*s+s*st*(c - 1):=by rw [Int.mul_add,Int.mul_comm s fr,Int.mul_comm (c - 1) st,Int.mul_assoc]
 have k3:0≤s*st:=Int.mul_nonneg hs.1 hst
 have k4:0≤fr*s:=Int.mul_nonneg hfr hs.1
 have k5:=hw_pos hm.1 hs.1
 have k6:=hw_pos hc k3
 have z:=zs_set2 hw (xs:=ds) (ys:=stp ds) (a:=c) (b:=s*st) hj (by omega)
 rw [← hse,k5,k6] at z
 have k7:0≤s*st*(c - 1):=Int.mul_nonneg k3 (by omega)
 -- what the axis alone may come to
 have key:s*(ix ds (j:Int) - 1)≤pr ds - 1:=by
  have hz:∀ (xs ys:List Int),(∀ d∈xs,1≤d)→(∀ y∈ys,0≤y)→∀ j:Nat,j<xs.length→j<ys.length→ix ys (j:Int)*(ix xs (j:Int) - 1)≤zs hw xs ys∧0≤zs hw xs ys:=by
   intro xs
   induction xs with
   | nil=>intro ys _ _ j hj; simp at hj
   | cons x xs ih =>
    intro ys hx hy j hj1 hj2
    cases ys with
    | nil=>simp at hj2
    | cons y ys =>
     have e:=hw_pos (hx x (by simp)) (hy y (by simp))
     have e0:=Int.mul_nonneg (hy y (by simp)) (show 0≤x - 1 by have:=hx x (by simp); omega)
     have nn:∀ (xs ys:List Int),(∀ d∈xs,1≤d)→(∀ y∈ys,0≤y)→0≤zs hw xs ys:=by
      intro xs
      induction xs with
      | nil=>intro ys _ _; simp [zs]
      | cons d ds ihh=>intro ss h1 h2; cases ss with
       | nil=>simp [zs]
       | cons s ss =>
        have:=ihh ss (fun x hx=>h1 x (by simp [hx])) (fun x hx=>h2 x (by simp [hx]))
        have h3:=hw_pos (h1 d (by simp)) (h2 s (by simp))
        have h4:=Int.mul_nonneg (h2 s (by simp)) (show 0≤d - 1 by have:=h1 d (by simp); omega)
        simp only [zs]; omega
     have n1:=nn xs ys (fun d hd=>hx d (by simp [hd])) (fun d hd=>hy d (by simp [hd]))
     cases j with
     | zero =>
      simp only [zs,e]
      show y*(x - 1)≤_∧_
      omega
     | succ j =>
      rw [ix_cons,ix_cons]
      have:=ih ys (fun d hd=>hx d (by simp [hd])) (fun d hd=>hy d (by simp [hd])) j (by simpa using hj1) (by simpa using hj2)
      simp only [zs,e]
      omega
  have:=(hz ds (stp ds) h.2.1 (fun y hy=>(hall y hy).1) j hj (by omega)).1
  rw [hsum,← hse] at this
  exact this
 have bst:s*st≤4096:=by
  by_cases g:c=1
  ·rw [hs1 g]; omega
  ·have:s*st*1≤s*st*(c - 1):=Int.mul_le_mul_of_nonneg_left (by omega) k3
   omega
 have hsz:SZ (ds.set j c):=⟨q2,by omega⟩
 refine ⟨⟨by simpa using h.1,hsz⟩,by simp [hlen],⟨hp,hp2⟩,⟨by omega,by omega⟩,?_,?_,by omega⟩
 ·exact mem_set_of (fun x hx=>by have:=hall x hx; omega) (by omega)
 ·rw [zs_lw0 q2 (mem_set_of (fun x hx=>(hall x hx).1) k3)]; omega
def cutV (ds:List Int)(a fr c st:Int):View:=⟨ds.set a.toNat c,(stp ds).set a.toNat (if c=1 then 0 else ix (stp ds) a*st),fr*ix (stp ds) a,pr ds⟩
theorem slOk_le {ds:List Int}{a fr c st:Int}(h:SlOk ds a fr c st):c≤ix ds a∧0≤(c - 1)*st∧(c - 1)*st≤4096*4096:=by
 obtain ⟨h1,h2,h3,h4,h5,h6,h7,h8,h9⟩:=h
 have:=mul_ge (a:=c - 1) (b:=st) (by omega) h5
 have k:=Int.mul_le_mul (show c - 1≤4096 by omega) h6 (by omega) (show (0:Int)≤4096 by omega)
 exact ⟨by omega,by omega,k⟩
theorem VG_cutV {ds:List Int}(h:OKD ds){a fr c st:Int}(hs:SlOk ds a fr c st):VG (cutV ds a fr c st).Dims (cutV ds a fr c st).Strides (cutV ds a fr c st).Offset (cutV ds a fr c st).Base:=by
 obtain ⟨l1,l2,l3⟩:=slOk_le hs
 obtain ⟨h1,h2,h3,h4,h5,h6,h7,h8,h9⟩:=hs
 obtain ⟨j,rfl⟩:=Int.eq_ofNat_of_zero_le h1
 have h9':fr+(c - 1)*(if c=1 then 0 else st)<ix ds (j:Int):=by
  split
  ·omega
  ·exact h9
 have:=VG_cut h (j:=j) (by omega) (fr:=fr) (c:=c) (st:=if c=1 then 0 else st) h3 (by split<;>omega) h7 h9' l1 (fun e=>by simp [e])
 have e:ix (stp ds) (j:Int)*(if c=1 then 0 else st)=if c=1 then 0 else ix (stp ds) (j:Int)*st:=by split<;>simp
 rw [e,Int.zero_add] at this
 exact this
theorem axis_s {ds:List Int}(h:OKD ds)(a:Int):Z25 (whole ds) a=some (decide (0≤a∧a<(ds.length:Int))):=by
 unfold Z25
 rw [view_s (VG_wh h)]
 simp only [Option.bind_some,Bool.true_and]
 congr 1
 rw [Bool.eq_iff_iff]
 simp [whole]
 exact fun _=>decide_eq_true_iff
theorem slice_s {ds:List Int}(h:OKD ds){a fr c st:Int}(hst:1≤st):Z17 (whole ds) a fr c st=some (if SlOk ds a fr c st then cutV ds a fr c st else noView):=by
 have hn:=h.1
 have hn4:=stp_len ds
 have hn2:(whole ds).Dims=ds:=rfl
 unfold Z17
 rw [axis_s h]
 simp only [Option.bind_some,hn2]
 by_cases g:(0≤a∧a<(ds.length:Int))∧1≤c∧c≤4096∧st≤4096∧0≤fr
 ·obtain ⟨g1,g2,g3,g4,g5⟩:=g
  obtain ⟨j,rfl⟩:=Int.eq_ofNat_of_zero_le g1.1
  have hj:j<ds.length:=by omega
  have hm:=h.2.mem (ix_mem hj)
  have hs:=stp_mem h.2 _ (ix_mem (xs:=stp ds) (k:=j) (by omega))
  have b1:(((((!decide (0≤(j:Int)∧(j:Int)<(ds.length:Int))||decide (c<1))||decide (c>4096))||decide (st < -4096))||decide (st>4096))||decide (fr<0))=false:=by simp; omega
  rw [if_pos (fun _=>g1),b1,Bool.false_or]
  by_cases g6:fr<ix ds (j:Int)
  ·rw [if_neg (by simp; omega)]
   have k0:0≤(c - 1)*st:=Int.mul_nonneg (by omega) (by omega)
   have k1:=Int.mul_le_mul (show c - 1≤4096 by omega) g4 (by omega) (show (0:Int)≤4096 by omega)
   have e:w64 (fr+w64 (w64 (c - 1)*st))=fr+(c - 1)*st:=by
    rw [w64_id (n:=c - 1) (by omega) (by omega),w64_id (n:=(c - 1)*st) (by omega) (by omega),w64_id (by omega) (by omega)]
   rw [e,if_pos (fun _=>g1)]
   by_cases g7:fr+(c - 1)*st<ix ds (j:Int)
   ·have ok:SlOk ds (j:Int) fr c st:=⟨g1.1,g1.2,g2,g3,hst,g4,g5,g6,g7⟩
    have vg:=VG_cutV h ok
    rw [if_neg (by simp; omega),if_pos ok]
    unfold Z27
    rw [ints_s (by rw [hn2]; omega),ints_s (by show (stp ds).length≤_; omega)]
    simp only [Option.bind_some,nm]
    have hsl:(whole ds).Strides=stp ds:=rfl
    have ho:(whole ds).Offset=0:=rfl
    have hbb:(whole ds).Base=pr ds:=rfl
    simp only [hsl,ho,hbb,hn2]
    rw [if_pos (by omega),if_pos (by omega)]
    have f1:0≤fr*ix (stp ds) (j:Int):=Int.mul_nonneg g5 hs.1
    have f2:=Int.mul_le_mul (show fr≤4096 by omega) hs.2 hs.1 (show (0:Int)≤4096 by omega)
    have f3:0≤ix (stp ds) (j:Int)*st:=Int.mul_nonneg hs.1 (by omega)
    have f4:=Int.mul_le_mul hs.2 g4 (by omega) (show (0:Int)≤4096 by omega)
    rw [w64_id (n:=ix (stp ds) (j:Int)*st) (by omega) (by omega)]
    have fin:∀ x:List Int,x=(cutV ds (j:Int) fr c st).Strides→Z17_J1 (j:Int) fr c ⟨ds,stp ds,0,pr ds⟩ x=some (cutV ds (j:Int) fr c st):=by
     rintro x rfl
     have hcv:(⟨ds.set (j:Int).toNat c,(cutV ds (j:Int) fr c st).Strides,0+fr*ix (stp ds) (j:Int),pr ds⟩:View)=cutV ds (j:Int) fr c st:=by simp [cutV]
     simp only [Z17_J1]
     rw [w64_id (n:=fr*ix (stp ds) (j:Int)) (by omega) (by omega),w64_id (by omega) (by omega),hcv]
     unfold Z28
     rw [view_s vg]
     rfl
    by_cases g8:c=1
    ·rw [if_pos (by simp [g8])]
     exact fin _ (by simp [cutV,g8])
    ·rw [if_neg (by simp [g8])]
     exact fin _ (by simp [cutV,g8])
   ·rw [if_pos (by simp; omega),if_neg (fun q=>g7 q.2.2.2.2.2.2.2.2)]
    rfl
  ·rw [if_pos (by simp; omega),if_neg (fun q=>g6 q.2.2.2.2.2.2.2.1)]
   rfl
 ·have b1:(((((!decide (0≤a∧a<(ds.length:Int))||decide (c<1))||decide (c>4096))||decide (st < -4096))||decide (st>4096))||decide (fr<0))=true:=by
   simp only [Bool.or_eq_true,Bool.not_eq_true',decide_eq_true_eq,decide_eq_false_iff_not]
   omega
  rw [if_pos (fun q=>by rw [b1] at q; cases q),b1,if_pos (by simp),if_neg (fun q=>g ⟨⟨q.1,q.2.1⟩,q.2.2.1,q.2.2.2.1,q.2.2.2.2.2.1,q.2.2.2.2.2.2.1⟩)]
  rfl
theorem set_i {v:View}{j:Nat}(hj:j<v.Dims.length)(hj2:j<v.Strides.length)(len s:Int):Z0w v (j:Int) len s=some ⟨v.Dims.set j len,v.Strides.set j (if len=1 then 0 else s),v.Offset,v.Base⟩:=by
 unfold Z0w
 by_cases g:len=1
 ·rw [if_pos (by simp [g])]
  simp only [Z0w_J3]
  rw [if_pos (by omega),if_pos (by omega),if_pos g,Int.toNat_natCast]
 ·rw [if_neg (by simp [g])]
  simp only [Z0w_J3]
  rw [if_pos (by omega),if_pos (by omega),if_neg g,Int.toNat_natCast]
theorem slice_i {ds:List Int}(h:OKD ds){a fr c st:Int}(hst:1≤st):Z2a (whole ds) a fr c st=some (if SlOk ds a fr c st then cutV ds a fr c st else noView):=by
 have hn:=h.1
 have hn4:=stp_len ds
 have hn2:(whole ds).Dims=ds:=rfl
 have hsl:(whole ds).Strides=stp ds:=rfl
 have ho:(whole ds).Offset=0:=rfl
 have hbb:(whole ds).Base=pr ds:=rfl
 unfold Z2a Z31
 rw [view_i (VG_wh h)]
 simp only [Option.bind_some,Bool.not_true,Bool.false_eq_true,if_false]
 rw [clone_i (by rw [hn2]; omega),clone_i (by rw [hsl]; omega)]
 simp only [Option.bind_some,hn2,hsl,ho,hbb]
 unfold Z1f
 simp only [Zj,Option.bind_some]
 have no:∀ (p:View) (z:Int),((gcall (!(!((false,p,z):Bool×View×Int).1)) (Zf ((false,p,z):Bool×View×Int).2.1)).bind fun r32:Bool=>if ((!((false,p,z):Bool×View×Int).1)||(!r32))=true then some ((⟨[],[],0,0⟩:View),z) else some (p,z))=some (noView,z):=by
  intro p z; simp [gcall,noView]
 by_cases g:(0≤a∧a<(ds.length:Int))∧1≤c∧c≤4096
 ·obtain ⟨g1,g2,g3⟩:=g
  obtain ⟨j,rfl⟩:=Int.eq_ofNat_of_zero_le g1.1
  have hj:j<ds.length:=by omega
  have hm:=h.2.mem (ix_mem hj)
  have hs:=stp_mem h.2 _ (ix_mem (xs:=stp ds) (k:=j) (by omega))
  rw [if_neg (by simp; omega),if_pos g1]
  by_cases g6:st≤4096∧0≤fr∧fr<ix ds (j:Int)
  ·rw [if_neg (by simp; omega)]
   have k0:0≤(c - 1)*st:=Int.mul_nonneg (by omega) (by omega)
   have k1:=Int.mul_le_mul (show c - 1≤4096 by omega) g6.1 (by omega) (show (0:Int)≤4096 by omega)
   have e:w64 (fr+w64 (st*w64 (c - 1)))=fr+(c - 1)*st:=by
    rw [w64_id (n:=c - 1) (by omega) (by omega),Int.mul_comm st,w64_id (n:=(c - 1)*st) (by omega) (by omega),w64_id (by omega) (by omega)]
   rw [e]
   have fin:∀ z:Int,(z=if c=1 then 0 else st)→SlOk ds (j:Int) fr c st→Z1f_J3 ⟨ds,stp ds,0,pr ds⟩ (j:Int) c fr z=some (true,cutV ds (j:Int) fr c st,z):=by
    intro z hz ok
    have f1:0≤fr*ix (stp ds) (j:Int):=Int.mul_nonneg g6.2.1 hs.1
    have f2:=Int.mul_le_mul (show fr≤4096 by omega) hs.2 hs.1 (show (0:Int)≤4096 by omega)
    have f3:0≤ix (stp ds) (j:Int)*z:=Int.mul_nonneg hs.1 (by rw [hz]; split<;>omega)
    have f4:=Int.mul_le_mul hs.2 (show z≤4096 by rw [hz]; split<;>omega) (by rw [hz]; split<;>omega) (show (0:Int)≤4096 by omega)
    simp only [Z1f_J3]
    rw [if_pos (by omega),w64_id (n:=fr*ix (stp ds) (j:Int)) (by omega) (by omega),w64_id (n:=0+fr*ix (stp ds) (j:Int)) (by omega) (by omega),w64_id (by omega) (by omega),set_i (by simpa using hj) (by simp; omega)]
    simp only [Option.bind_some,cutV,Int.toNat_natCast,Int.zero_add]
    congr 5
    rw [hz]; split<;>rfl
   have yes:∀ z:Int,SlOk ds (j:Int) fr c st→((gcall (!(!((true,cutV ds (j:Int) fr c st,z):Bool×View×Int).1)) (Zf ((true,cutV ds (j:Int) fr c st,z):Bool×View×Int).2.1)).bind fun r32:Bool=>if ((!((true,cutV ds (j:Int) fr c st,z):Bool×View×Int).1)||(!r32))=true then some ((⟨[],[],0,0⟩:View),z) else some (cutV ds (j:Int) fr c st,z))=some (cutV ds (j:Int) fr c st,z):=by
    intro z ok
    simp only [gcall,Bool.not_true,Bool.not_false,cond_true,Bool.false_or]
    rw [view_i (VG_cutV h ok)]
    rfl
   by_cases g8:c=1
   ·have ok:SlOk ds (j:Int) fr c st:=⟨g1.1,g1.2,g2,g3,hst,g6.1,g6.2.1,g6.2.2,by rw [g8]; omega⟩
    rw [if_neg (by simp; omega),fin 0 (by simp [g8]) ok]
    simp only [Option.bind_some]
    rw [yes 0 ok,if_pos ok]
    rfl
   ·rw [if_pos (by simp; omega)]
    by_cases g7:fr+(c - 1)*st<ix ds (j:Int)
    ·have ok:SlOk ds (j:Int) fr c st:=⟨g1.1,g1.2,g2,g3,hst,g6.1,g6.2.1,g6.2.2,g7⟩
     rw [if_neg (by simp; omega),fin st (by simp [g8]) ok]
     simp only [Option.bind_some]
     rw [yes st ok,if_pos ok]
     rfl
    ·rw [if_pos (by simp; omega),if_neg (fun q=>g7 q.2.2.2.2.2.2.2.2)]
     simp only [Option.bind_some]
     rw [no]
     rfl
  ·rw [if_pos (by simp; omega),if_neg (fun q=>g6 ⟨q.2.2.2.2.2.1,q.2.2.2.2.2.2.1,q.2.2.2.2.2.2.2.1⟩)]
   simp only [Option.bind_some]
   rw [no]
   rfl
 ·rw [if_pos (by simp; omega),if_neg (fun q=>g ⟨⟨q.1,q.2.1⟩,q.2.2.1,q.2.2.2.1⟩)]
  simp only [Option.bind_some]
  rw [no]
  rfl
def winN (ds:List Int)(a sz st:Int):Int:=(ix ds a - sz) / st+1
def winV (ds:List Int)(a sz st:Int):View:=⟨ds.set a.toNat (winN ds a sz st)++[sz],(stp ds).set a.toNat (if winN ds a sz st=1 then 0 else ix (stp ds) a*st)++[if sz=1 then 0 else ix (stp ds) a],0,pr ds⟩
def WiOk (ds:List Int)(a sz st:Int):Prop:=0≤a∧a<(ds.length:Int)∧1≤sz∧1≤st∧sz≤ix ds a
instance (ds:List Int)(a sz st:Int):Decidable (WiOk ds a sz st):=by unfold WiOk; infer_instance
theorem zs_nn {xs ys:List Int}(hx:∀ d∈xs,1≤d)(hy:∀ y∈ys,0≤y):0≤zs hw xs ys:=by
 induction xs generalizing ys with
 | nil=>simp [zs]
 | cons d ds ih=>cases ys with
  | nil=>simp [zs]
  | cons s ss =>
   have:=ih (ys:=ss) (fun x h=>hx x (by simp [h])) (fun x h=>hy x (by simp [h]))
   have h3:=hw_pos (hx d (by simp)) (hy s (by simp))
   have h4:=Int.mul_nonneg (hy s (by simp)) (show 0≤d - 1 by have:=hx d (by simp); omega)
   simp only [zs]; omega
theorem axis_le {ds:List Int}(h:OKD ds){j:Nat}(hj:j<ds.length):ix (stp ds) (j:Int)*(ix ds (j:Int) - 1)≤pr ds - 1:=by
 have hlen:=stp_len ds
 have hm:=h.2.mem (ix_mem hj)
 have hs:=stp_mem h.2 _ (ix_mem (xs:=stp ds) (k:=j) (by omega))
 have z:=zs_set2 hw (xs:=ds) (ys:=stp ds) (a:=ix ds (j:Int)) (b:=0) hj (by omega)
 have e:ds.set j (ix ds (j:Int))=ds:=by rw [ix_at hj]; simp
 rw [e,hw0,hw_pos hm.1 hs.1,whole_hw h.2] at z
 have:=zs_nn (xs:=ds) (ys:=(stp ds).set j 0) h.2.1 (mem_set_of (fun x hx=>(stp_mem h.2 x hx).1) (by omega))
 omega
theorem winN_le {ds:List Int}{a sz st:Int}(h:WiOk ds a sz st):1≤winN ds a sz st∧winN ds a sz st≤ix ds a∧(winN ds a sz st - 1)*st≤ix ds a - sz:=by
 obtain ⟨h1,h2,h3,h4,h5⟩:=h
 unfold winN
 have a1:0≤(ix ds a - sz) / st:=Int.ediv_nonneg (by omega) (by omega)
 have a2:(ix ds a - sz) / st≤ix ds a - sz:=Int.ediv_le_self _ (by omega)
 have a3:=Int.ediv_mul_le (ix ds a - sz) (show st≠0 by omega)
 refine ⟨by omega,by omega,?_⟩
 rw [show (ix ds a - sz) / st+1 - 1=(ix ds a - sz) / st by omega]
 exact a3
theorem VG_win {ds:List Int}(h:OKD ds){a sz st:Int}(hw_:WiOk ds a sz st)(hd:OKD (winV ds a sz st).Dims):VG (winV ds a sz st).Dims (winV ds a sz st).Strides (winV ds a sz st).Offset (winV ds a sz st).Base:=by
 obtain ⟨n1,n2,n3⟩:=winN_le hw_
 obtain ⟨h1,h2,h3,h4,h5⟩:=hw_
 obtain ⟨j,rfl⟩:=Int.eq_ofNat_of_zero_le h1
 have hj:j<ds.length:=by omega
 have hlen:=stp_len ds
 have hm:=h.2.mem (ix_mem hj)
 have hs:=stp_mem h.2 _ (ix_mem (xs:=stp ds) (k:=j) (by omega))
 have ax:=axis_le h hj
 have hp:=h.2.pos
 have hp2:=h.2.2
 have hsum:=whole_hw h.2
 obtain ⟨n,hn⟩:∃ n,n=winN ds (j:Int) sz st:=⟨_,rfl⟩
 obtain ⟨s,hse⟩:∃ s,s=ix (stp ds) (j:Int):=⟨_,rfl⟩
 have e1:(winV ds (j:Int) sz st).Dims=ds.set j n++[sz]:=by rw [hn]; simp [winV]
 have e2:(winV ds (j:Int) sz st).Strides=(stp ds).set j (if n=1 then 0 else s*st)++[if sz=1 then 0 else s]:=by rw [hn,hse]; simp [winV]
 rw [← hn] at n1 n2 n3
 rw [← hse] at hs ax
 rw [e1] at hd
 have k0:0≤(n - 1)*st:=Int.mul_nonneg (by omega) (by omega)
 have k3:0≤s*st:=Int.mul_nonneg hs.1 (by omega)
 have k4:s*((n - 1)*st)=s*st*(n - 1):=by rw [Int.mul_comm (n - 1) st,Int.mul_assoc]
 have k5:s*((n - 1)*st+(sz - 1))≤s*(ix ds (j:Int) - 1):=Int.mul_le_mul_of_nonneg_left (by omega) hs.1
 rw [Int.mul_add,k4] at k5
 have k6:0≤s*(sz - 1):=Int.mul_nonneg hs.1 (by omega)
 have k7:0≤s*st*(n - 1):=Int.mul_nonneg k3 (by omega)
 obtain ⟨s1,hs1⟩:∃ s1,s1=if n=1 then 0 else s*st:=⟨_,rfl⟩
 obtain ⟨s2,hs2⟩:∃ s2,s2=if sz=1 then 0 else s:=⟨_,rfl⟩
 have m1:0≤s1∧s1≤4096∧s1*(n - 1)=s*st*(n - 1):=by
  by_cases c:n=1
  ·rw [hs1,if_pos c,c]; simp
  ·rw [hs1,if_neg c]
   have:s*st*1≤s*st*(n - 1):=Int.mul_le_mul_of_nonneg_left (by omega) k3
   omega
 have m2:0≤s2∧s2≤4096∧s2*(sz - 1)=s*(sz - 1):=by
  by_cases c:sz=1
  ·rw [hs2,if_pos c,c]; simp
  ·rw [hs2,if_neg c]; omega
 have z:=zs_set2 hw (xs:=ds) (ys:=stp ds) (a:=n) (b:=s1) hj (by omega)
 rw [← hse,hw_pos hm.1 hs.1,hw_pos n1 m1.1,hsum,m1.2.2] at z
 have z2:zs hw (ds.set j n++[sz]) ((stp ds).set j s1++[s2])=zs hw (ds.set j n) ((stp ds).set j s1)+s*(sz - 1):=by
  rw [zs_app _ (by simp [hlen])]
  have:zs hw [sz] [s2]=hw sz s2:=by simp [zs]
  rw [this,hw_pos h3 m2.1,m2.2.2]
 have nn:∀ x∈(stp ds).set j s1++[s2],0≤x∧x≤4096:=by
  intro x hx
  rcases List.mem_append.1 hx with hx | hx
  ·exact mem_set_of (fun x hx=>stp_mem h.2 x hx) ⟨m1.1,m1.2.1⟩ x hx
  ·have:x=s2:=by simpa using hx
   subst this; exact ⟨m2.1,m2.2.1⟩
 rw [e1,e2,← hs1,← hs2]
 refine ⟨hd,by simp [hlen],⟨hp,hp2⟩,⟨Int.le_refl 0,by show 0<pr ds; omega⟩,fun x hx=>by have:=nn x hx; omega,?_,?_⟩
 ·rw [zs_lw0 hd.2.1 fun x hx=>(nn x hx).1]; show (0:Int)≤0+0; decide
 ·show 0+_<pr ds
  omega
theorem windows_s {ds:List Int}(h:OKD ds){a sz st:Int}:Z0c (whole ds) a sz st=some (if WiOk ds a sz st∧OKD (winV ds a sz st).Dims then winV ds a sz st else noView):=by
 have hn:=h.1
 have hn4:=stp_len ds
 have hn2:(whole ds).Dims=ds:=rfl
 have hsl:(whole ds).Strides=stp ds:=rfl
 have ho:(whole ds).Offset=0:=rfl
 have hbb:(whole ds).Base=pr ds:=rfl
 unfold Z0c
 rw [axis_s h]
 simp only [Option.bind_some,hn2,hsl]
 by_cases g:(0≤a∧a<(ds.length:Int))∧1≤sz∧1≤st
 ·obtain ⟨g1,g2,g3⟩:=g
  have b1:((!decide (0≤a∧a<(ds.length:Int))||decide (sz<1))||decide (st<1))=false:=by simp; omega
  rw [if_pos (fun _=>g1),b1,Bool.false_or]
  by_cases g6:sz≤ix ds a
  ·have ok:WiOk ds a sz st:=⟨g1.1,g1.2,g2,g3,g6⟩
   obtain ⟨n1,n2,n3⟩:=winN_le ok
   obtain ⟨j,rfl⟩:=Int.eq_ofNat_of_zero_le g1.1
   have hj:j<ds.length:=by omega
   have hm:=h.2.mem (ix_mem hj)
   have hs:=stp_mem h.2 _ (ix_mem (xs:=stp ds) (k:=j) (by omega))
   rw [if_neg (by simp; omega)]
   unfold Z27
   rw [ints_s (by rw [hn2]; omega),ints_s (by rw [hsl]; omega)]
   simp only [Option.bind_some,nm,hn2,hsl,ho,hbb]
   have e:w64 (w64 ((w64 (ix ds (j:Int) - sz)).tdiv st)+1)=winN ds (j:Int) sz st:=by
    rw [w64_id (n:=ix ds (j:Int) - sz) (by omega) (by omega),Int.tdiv_eq_ediv_of_nonneg (by omega)]
    unfold winN at n1 n2 ⊢
    rw [w64_id (n:=(ix ds (j:Int) - sz) / st) (by omega) (by omega),w64_id (by omega) (by omega)]
   simp only [e]
   rw [if_pos (by omega),if_pos (by omega),if_pos (by omega),if_pos (by omega),if_pos (by omega)]
   have j1:∀ x:List Int,x++[if sz=1 then 0 else ix (stp ds) (j:Int)]=(winV ds (j:Int) sz st).Strides→x.length=ds.length→Z0c_J1 (whole ds) (j:Int) sz ⟨ds,stp ds,0,pr ds⟩ (ds.set (j:Int).toNat (winN ds (j:Int) sz st)) x=some (if WiOk ds (j:Int) sz st∧OKD (winV ds (j:Int) sz st).Dims then winV ds (j:Int) sz st else noView):=by
    intro x hx hxl
    have j2:∀ y,y=(if sz=1 then 0 else ix (stp ds) (j:Int))→Z0c_J2 sz ⟨ds,stp ds,0,pr ds⟩ (ds.set (j:Int).toNat (winN ds (j:Int) sz st)) x y=some (if WiOk ds (j:Int) sz st∧OKD (winV ds (j:Int) sz st).Dims then winV ds (j:Int) sz st else noView):=by
     rintro y rfl
     simp only [Z0c_J2]
     rw [if_pos (by simp; omega),hx]
     have hcv:(⟨ds.set (j:Int).toNat (winN ds (j:Int) sz st)++[sz],(winV ds (j:Int) sz st).Strides,0,pr ds⟩:View)=winV ds (j:Int) sz st:=rfl
     rw [hcv]
     unfold Z28
     by_cases q:OKD (winV ds (j:Int) sz st).Dims
     ·rw [view_s (VG_win h ok q),if_pos ⟨ok,q⟩]
      rfl
     ·rw [viewNo_s (by simp [winV,big]; omega) q,if_neg (fun z=>q z.2)]
      rfl
    simp only [Z0c_J1]
    rw [if_pos (by simp; omega)]
    by_cases q:sz=1
    ·rw [if_pos (by simp [q])]; exact j2 _ (by simp [q])
    ·rw [if_neg (by simp [q])]; exact j2 _ (by simp [q,hsl])
   by_cases q:winN ds (j:Int) sz st=1
   ·rw [if_neg (by simp; omega)]
    exact j1 _ (by simp [winV,q]) (by simp; omega)
   ·have k:(winN ds (j:Int) sz st - 1)*st≤4096:=by omega
    have k2:1*st≤(winN ds (j:Int) sz st - 1)*st:=Int.mul_le_mul_of_nonneg_right (by omega) (by omega)
    have f3:0≤ix (stp ds) (j:Int)*st:=Int.mul_nonneg hs.1 (by omega)
    have f4:=Int.mul_le_mul hs.2 (show st≤4096 by omega) (by omega) (show (0:Int)≤4096 by omega)
    rw [if_pos (by simp; omega),w64_id (n:=ix (stp ds) (j:Int)*st) (by omega) (by omega),List.set_set]
    exact j1 _ (by simp [winV,q]) (by simp; omega)
  ·rw [if_pos (by simp; omega),if_neg (fun q=>g6 q.1.2.2.2.2)]
   rfl
 ·have b1:((!decide (0≤a∧a<(ds.length:Int))||decide (sz<1))||decide (st<1))=true:=by
   simp only [Bool.or_eq_true,Bool.not_eq_true',decide_eq_true_eq,decide_eq_false_iff_not]
   omega
  rw [if_pos (fun q=>by rw [b1] at q; cases q),b1,if_pos (by simp),if_neg (fun q=>g ⟨⟨q.1.1,q.1.2.1⟩,q.1.2.2.1,q.1.2.2.2.1⟩)]
  rfl
theorem put_i {v:View}(hd:v.Dims.length≤6)(hs:v.Strides.length=v.Dims.length)(len s:Int):Z2j v len s=some ⟨v.Dims++[len],v.Strides++[if len=1 then 0 else s],v.Offset,v.Base⟩:=by
 unfold Z2j
 rw [if_pos (by simp; omega),if_pos (by simp; omega)]
 have e:w64 (((v.Dims++[(0:Int)]).length:Int) - 1)=(v.Dims.length:Int):=by
  have:((v.Dims++[(0:Int)]).length:Int)=v.Dims.length+1:=by simp
  rw [this,w64_id (by omega) (by omega)]; omega
 rw [e,set_i (by simp) (by simp; omega)]
 simp only [Option.bind_some]
 have e1:(v.Dims++[0]).set v.Dims.length len=v.Dims++[len]:=by rw [List.set_append_right _ _ (Nat.le_refl _)]; simp
 have e2:∀ x:Int,(v.Strides++[0]).set v.Dims.length x=v.Strides++[x]:=by intro x; rw [← hs,List.set_append_right _ _ (Nat.le_refl _)]; simp
 rw [e1,e2]
theorem windows_i {ds:List Int}(h:OKD ds){a sz st:Int}:Z2c (whole ds) a sz st=some (if WiOk ds a sz st∧OKD (winV ds a sz st).Dims then winV ds a sz st else noView):=by
 have hn:=h.1
 have hn4:=stp_len ds
 have hn2:(whole ds).Dims=ds:=rfl
 have hsl:(whole ds).Strides=stp ds:=rfl
 have ho:(whole ds).Offset=0:=rfl
 have hbb:(whole ds).Base=pr ds:=rfl
 unfold Z2c Z33
 rw [view_i (VG_wh h)]
 simp only [Option.bind_some,Bool.not_true,Bool.false_eq_true,if_false]
 rw [clone_i (by rw [hn2]; omega),clone_i (by rw [hsl]; omega)]
 simp only [Option.bind_some,hn2,hsl,ho,hbb]
 unfold Z1g
 simp only [Zj,Option.bind_some]
 by_cases g:(0≤a∧a<(ds.length:Int))∧1≤sz∧1≤st
 ·obtain ⟨g1,g2,g3⟩:=g
  rw [if_pos (fun _=>g1)]
  by_cases g6:sz≤ix ds a
  ·have ok:WiOk ds a sz st:=⟨g1.1,g1.2,g2,g3,g6⟩
   obtain ⟨n1,n2,n3⟩:=winN_le ok
   obtain ⟨j,rfl⟩:=Int.eq_ofNat_of_zero_le g1.1
   have hj:j<ds.length:=by omega
   have hm:=h.2.mem (ix_mem hj)
   have hs:=stp_mem h.2 _ (ix_mem (xs:=stp ds) (k:=j) (by omega))
   rw [if_neg (by simp; omega),if_pos (by omega),if_pos g1,if_pos (by omega)]
   have e:w64 (w64 ((w64 (ix ds (j:Int) - sz)).tdiv st)+1)=winN ds (j:Int) sz st:=by
    rw [w64_id (n:=ix ds (j:Int) - sz) (by omega) (by omega),Int.tdiv_eq_ediv_of_nonneg (by omega)]
    unfold winN at n1 n2 ⊢
    rw [w64_id (n:=(ix ds (j:Int) - sz) / st) (by omega) (by omega),w64_id (by omega) (by omega)]
   have j3:∀ z:Int,(z=if winN ds (j:Int) sz st=1 then 0 else st)→Z1g_J3 ⟨ds,stp ds,0,pr ds⟩ (j:Int) sz st z=some (true,winV ds (j:Int) sz st,z):=by
    intro z hz
    have hzb:0≤z∧z≤4096:=by
     by_cases q:winN ds (j:Int) sz st=1
     ·rw [hz,if_pos q]; omega
     ·have k2:1*st≤(winN ds (j:Int) sz st - 1)*st:=Int.mul_le_mul_of_nonneg_right (by omega) (by omega)
      rw [hz,if_neg q]; omega
    have f3:0≤ix (stp ds) (j:Int)*z:=Int.mul_nonneg hs.1 hzb.1
    have f4:=Int.mul_le_mul hs.2 hzb.2 hzb.1 (show (0:Int)≤4096 by omega)
    simp only [Z1g_J3,e]
    rw [w64_id (by omega) (by omega),set_i (by simpa using hj) (by simp; omega)]
    simp only [Option.bind_some]
    rw [put_i (by simp; omega) (by simp; omega)]
    simp only [Option.bind_some,winV,Int.toNat_natCast]
    congr 6
    rw [hz]; split<;>rfl
   have fin:∀ z:Int,(gcall (!(!((true,winV ds (j:Int) sz st,z):Bool×View×Int).1)) (Zf ((true,winV ds (j:Int) sz st,z):Bool×View×Int).2.1)).bind (fun r32:Bool=>if ((!((true,winV ds (j:Int) sz st,z):Bool×View×Int).1)||(!r32))=true then some ((⟨[],[],0,0⟩:View),z) else some (winV ds (j:Int) sz st,z))=some ((if WiOk ds (j:Int) sz st∧OKD (winV ds (j:Int) sz st).Dims then winV ds (j:Int) sz st else noView),z):=by
    intro z
    simp only [gcall,Bool.not_true,Bool.not_false,cond_true,Bool.false_or]
    by_cases q:OKD (winV ds (j:Int) sz st).Dims
    ·rw [view_i (VG_win h ok q),if_pos ⟨ok,q⟩]
     rfl
    ·rw [viewNo_i (by simp [winV,big]; omega) q,if_neg (fun z=>q z.2)]
     rfl
   rw [e]
   by_cases q:winN ds (j:Int) sz st=1
   ·rw [if_pos (by simp [q]),j3 0 (by simp [q])]
    simp only [Option.bind_some]
    rw [fin]
    rfl
   ·rw [if_neg (by simp [q]),j3 st (by simp [q])]
    simp only [Option.bind_some]
    rw [fin]
    rfl
  ·rw [if_pos (by simp; omega),if_neg (fun q=>g6 q.1.2.2.2.2)]
   simp [gcall,noView]
 ·have b1:(((!(decide (a≥0)&&decide (a<(ds.length:Int))))||decide (sz<1))||decide (st<1))=true:=by
   simp only [Bool.or_eq_true,Bool.not_eq_true',decide_eq_true_eq,Bool.and_eq_false_iff,decide_eq_false_iff_not]
   omega
  rw [if_pos (fun q=>by rw [b1] at q; cases q),b1,if_pos (by simp),if_neg (fun q=>g ⟨⟨q.1.1,q.1.2.1⟩,q.1.2.2.1,q.1.2.2.2.1⟩)]
  simp [gcall,noView]
def NR (x:Int):Prop:=0≤x∧x<2147483647
instance (x:Int):Decidable (NR x):=by unfold NR; infer_instance
def RG (n:Nat)(x:List Int):Prop:=x.length=n∧∀ y∈x,NR y
theorem RG.set {n:Nat}{x:List Int}(h:RG n x){y:Int}(hy:NR y)(k:Nat):RG n (x.set k y):=⟨by simp [h.1],mem_set_of h.2 hy⟩
theorem RG.rep (n:Nat):RG n (List.replicate n 0):=⟨by simp,fun y hy=>by rw [(List.mem_replicate.1 hy).2]; decide⟩
theorem RG.ix {n:Nat}{x:List Int}(h:RG n x){i:Int}(h0:0≤i)(h1:i<(n:Int)):NR (ix x i):=by
 obtain ⟨k,rfl⟩:=Int.eq_ofNat_of_zero_le h0
 exact h.2 _ (ix_mem (by have:=h.1; omega))
theorem fillL {R:Type}{f:List Int×Int→Option ((List Int×Int)⊕R)}{Post:R→Prop}(m n:Nat)(hs:∀ j:Nat,j<n→∀ x,RG m x→∃ x',f (x,(j:Int))=some (.inl (x',((j+1:Nat):Int)))∧RG m x')(he:∀ x,RG m x→∃ r,f (x,(n:Int))=some (.inr r)∧Post r){x:List Int}(h0:RG m x):∃ r,loopM f (x,0)=some r∧Post r :=
 loopI (f:=f) (fun j s=>s.2=(j:Int)∧RG m s.1) n (fun j s hj hI=>by
  obtain ⟨x,i⟩:=s
  obtain ⟨rfl,hr⟩:=hI
  obtain ⟨x',h1,h2⟩:=hs j hj x hr
  exact ⟨_,h1,rfl,h2⟩) (fun s hI=>by
  obtain ⟨x,i⟩:=s
  obtain ⟨rfl,hr⟩:=hI
  exact he x hr) (s:=(x,0)) ⟨rfl,h0⟩
theorem mod_s (p:Int):∃ m,Zn p=some m∧NR m:=by
 have h1:=Int.tmod_lt_of_pos p (show (0:Int)<2147483647 by omega)
 have h2 : -2147483647<p.tmod 2147483647:=by
  rcases Int.le_total 0 p with h | h
  ·have:=Int.tmod_nonneg 2147483647 h; omega
  ·have e:p.tmod 2147483647 = -((-p).tmod 2147483647):=by rw [Int.neg_tmod]; omega
   have:=Int.tmod_lt_of_pos (-p) (show (0:Int)<2147483647 by omega)
   omega
 unfold Zn
 by_cases c:p.tmod 2147483647<0
 ·rw [if_pos (by simpa using c)]
  exact ⟨_,rfl,by rw [w64_id (by omega) (by omega)]; constructor<;>omega⟩
 ·rw [if_neg (by simpa using c)]
  exact ⟨_,rfl,by constructor<;>omega⟩
theorem signed_s (p:Int):∃ m,Z1b p=some m:=by
 obtain ⟨m,h,_⟩:=mod_s p
 unfold Z1b
 rw [h]
 simp only [Option.bind_some]
 split<;>exact ⟨_,rfl⟩
theorem plus_s (a b:Int):∃ m,Z1j a b=some m∧NR m:=by
 obtain ⟨x,h1,_⟩:=mod_s a
 obtain ⟨y,h2,_⟩:=mod_s b
 obtain ⟨z,h3,h4⟩:=mod_s (w64 (x+y))
 exact ⟨z,by unfold Z1j; simp [h1,h2,h3],h4⟩
theorem minus_s (a b:Int):∃ m,Z24 a b=some m∧NR m:=by
 obtain ⟨x,h1,_⟩:=mod_s a
 obtain ⟨y,h2,_⟩:=mod_s b
 obtain ⟨z,h3,h4⟩:=mod_s (w64 (x - y))
 exact ⟨z,by unfold Z24; simp [h1,h2,h3],h4⟩
theorem times_s (a b:Int):∃ m,Z1c a b=some m∧NR m:=by
 obtain ⟨x,h1,_⟩:=mod_s a
 obtain ⟨y,h2,_⟩:=mod_s b
 obtain ⟨z,h3,h4⟩:=mod_s (w64 (x*y))
 exact ⟨z,by unfold Z1c; simp [h1,h2,h3],h4⟩
theorem raise_s (a:Int):∀ (f:Nat) (n:Int),0≤n→n<2 ^ f→n≤1099511627776→∃ m,Zp_R (f+1) a n=some m∧NR m:=by
 intro f
 induction f with
 | zero =>
  intro n h0 h1 _
  have:n=0:=by simp at h1; omega
  subst this
  exact ⟨1,rfl,by decide⟩
 | succ f ih =>
  intro n h0 h1 hf
  show ∃ m,Zp_S (Zp_R (f+1)) a n=some m∧NR m
  unfold Zp_S
  by_cases c:n=0
  ·rw [if_pos (by simp [c])]; exact ⟨1,rfl,by decide⟩
  ·rw [if_neg (by simp [c])]
   have e:n.tdiv 2=n / 2:=Int.tdiv_eq_ediv_of_nonneg h0
   have h2:n / 2<2 ^ f:=by rw [Int.pow_succ] at h1; omega
   rw [e,w64_id (by omega) (by omega)]
   obtain ⟨x,g1,g2⟩:=ih (n / 2) (by omega) h2 (by omega)
   obtain ⟨y,g3,g4⟩:=times_s x x
   obtain ⟨z,g5,g6⟩:=times_s y a
   rw [g1]
   simp only [Option.bind_some,g3]
   split
   ·simp only [g5,Option.bind_some]; exact ⟨z,rfl,g6⟩
   ·exact ⟨y,rfl,g4⟩
theorem inverse_s (a:Int):∃ m,Z23 a=some m∧NR m:=by
 obtain ⟨x,h1,_⟩:=mod_s a
 unfold Z23 Zp
 rw [h1]
 simp only [Option.bind_some]
 obtain ⟨y,h2,h3⟩:=raise_s x 31 2147483645 (by omega) (by decide) (by omega)
 have mono:∀ f g:Nat,∀ n m,f≤g→Zp_R f x n=some m→Zp_R g x n=some m:=by
  intro f
  induction f with
  | zero=>intro g n m _ h; cases h
  | succ f ih =>
   intro g n m hg h
   obtain ⟨g,rfl⟩:∃ k,g=k+1:=⟨g - 1,by omega⟩
   change Zp_S (Zp_R f) x n=some m at h
   show Zp_S (Zp_R g) x n=some m
   unfold Zp_S at h ⊢
   split
   ·rename_i c; rw [if_pos c] at h; exact h
   ·rename_i c
    rw [if_neg c] at h
    cases e:Zp_R f x (w64 (n.tdiv 2)) with
    | none=>rw [e] at h; cases h
    | some r=>rw [e] at h; rw [ih g _ r (by omega) e]; exact h
 rw [mono 32 recFuel _ y (by decide) h2]
 exact ⟨y,rfl,h3⟩
theorem one1_s {op x:Int}(hx:NR x):∃ m,Z2v op x=some m∧NR m:=by
 unfold Z2v
 split
 ·obtain ⟨m,h1,h2⟩:=minus_s 0 x; rw [h1]; exact ⟨m,rfl,h2⟩
 ·split
  ·obtain ⟨m,h1,h2⟩:=inverse_s x; rw [h1]; exact ⟨m,rfl,h2⟩
  ·obtain ⟨m,h1⟩:=signed_s x
   rw [h1]
   simp only [Option.bind_some]
   split
   ·exact ⟨0,rfl,by decide⟩
   ·split
    ·exact ⟨1,rfl,by decide⟩
    ·exact ⟨x,rfl,hx⟩
theorem two1_s {op x y:Int}(h1:1≤op)(h2:op≤3):∃ m,Z1k op x y=some m∧NR m:=by
 obtain ⟨a,ha⟩:=signed_s x
 obtain ⟨b,hb⟩:=signed_s y
 unfold Z1k
 rw [ha,hb]
 simp only [Option.bind_some]
 split
 ·obtain ⟨m,h1,h2⟩:=plus_s x y; rw [h1]; exact ⟨m,rfl,h2⟩
 ·split
  ·obtain ⟨m,h1,h2⟩:=minus_s x y; rw [h1]; exact ⟨m,rfl,h2⟩
  ·split
   ·obtain ⟨m,h1,h2⟩:=times_s x y; rw [h1]; exact ⟨m,rfl,h2⟩
   ·rename_i c1 c2 c3
    simp only [beq_iff_eq] at c1 c2 c3
    omega
theorem tok_of {ds:List Int}{x:List Int}(h:OKD ds)(hx:RG (pr ds).toNat x):TOk ds x:=⟨h,by have:=hx.1; have:=h.2.pos; omega,fun y hy=>hx.2 y hy⟩
theorem rg_of {ds:List Int}{x:List Int}(h:TOk ds x):RG (pr ds).toNat x:=⟨by have:=h.l; omega,fun y hy=>h.x y hy⟩
theorem tlen {ds x:List Int}(h:TOk ds x):x.length≤4096∧ds.length≤6:=⟨by have:=h.l; have:=h.d.2.2; omega,h.d.1⟩
def TT (t:Tensor):Prop:=TOk t.Dims t.Data
theorem tt_s {t:Tensor}(h:TT t):Zo t=some true:=by
 have:=tlen h
 rw [tens_s (by unfold big; omega) (by unfold big; omega),decide_eq_true (show TOk t.Dims t.Data from h)]
theorem one_s {op:Int}{t:Tensor}(h:TT t)(h1:1≤op)(h2:op≤4):∃ d,Z0z op t=some ⟨t.Dims,d⟩∧TOk t.Dims d:=by
 have hl:=tlen h
 unfold Z0z
 rw [tt_s h]
 simp only [Option.bind_some]
 rw [if_neg (by simp; omega),new_s h.d]
 simp only [Option.bind_some]
 have hn:(pr t.Dims).toNat=t.Data.length:=(rg_of h).1.symm
 obtain ⟨r,e1,e2⟩:=fillL (f:=fun s:List Int×Int=>Z0z_L1 op t ⟨t.Dims,List.replicate (pr t.Dims).toNat 0⟩ s.1 s.2) (Post:=fun r=>RG (pr t.Dims).toNat r) (pr t.Dims).toNat t.Data.length
  (fun j hj x hx=>by
   obtain ⟨m,g1,g2⟩:=one1_s (op:=op) ((rg_of h).ix (i:=(j:Int)) (by omega) (by omega))
   simp only [Z0z_L1]
   rw [if_pos (by simp; omega),if_pos (by omega),g1]
   simp only [Option.bind_some]
   rw [if_pos (by simp; omega),w64k (by unfold big; omega)]
   exact ⟨_,rfl,hx.set g2 _⟩)
  (fun x hx=>by simp only [Z0z_L1]; rw [if_neg (by simp)]; exact ⟨x,rfl,hx⟩) (RG.rep _)
 rw [e1]
 exact ⟨r,rfl,tok_of h.d e2⟩
theorem joint_s {ds:List Int}(h:OKD ds):Zy ds ds=some ds:=by
 have hn:=h.1
 unfold Zy
 rw [dims_s (by unfold big; omega)]
 simp only [h,decide_true,Option.bind_some,gcall,Bool.not_true,Bool.not_false,cond_true,Bool.or_self,Bool.false_eq_true,if_false]
 rw [if_neg (by simp)]
 unfold Zy_J1
 rw [if_pos (by omega)]
 have:=loopN (f:=fun s:List Int×Int=>Zy_L1 ds ds (ds.length:Int) s.1 s.2) (r:=.inr ds) (fun j=>(List.replicate (ds.length - j) 0++ds.drop (ds.length - j),(j:Int))) ds.length
  (fun j hj=>by
   obtain ⟨i,hi⟩:∃ i,i=ds.length - (j+1):=⟨_,rfl⟩
   have e1:ds.length - j=i+1:=by omega
   have hi2:i<ds.length:=by omega
   have e2:w64 (w64 ((ds.length:Int) - 1) - (j:Int))=(i:Int):=by rw [w64_id (n:=(ds.length:Int) - 1) (by omega) (by omega),w64_id (by omega) (by omega)]; omega
   have hb:Z26 ds (j:Int)=some (ix ds (i:Int)):=by
    unfold Z26
    rw [if_neg (by simp; omega),e2,if_pos (by omega)]
   simp only [Zy_L1]
   rw [if_pos (by simp; omega),hb]
   simp only [Option.bind_some]
   rw [if_neg (by simp),if_neg (by simp)]
   simp only [Zy_J3,e2]
   rw [if_pos (by simp; omega),w64k (by unfold big; omega),e1,← hi,Int.toNat_natCast]
   congr 3
   have hd:ds.drop i=ix ds (i:Int)::ds.drop (i+1):=by rw [List.drop_eq_getElem_cons hi2,ix_at hi2]
   rw [hd,List.replicate_succ',List.set_append_left _ _ (by simp),List.set_append_right _ _ (by simp)]
   simp)
  (by simp only [Zy_L1,Nat.sub_self,List.replicate_zero,List.drop_zero,List.nil_append]; rw [if_neg (by simp)])
  (s:=(List.replicate (ds.length:Int).toNat 0,0)) (by simp)
 rw [this]
 simp only [Option.bind_some,Zy_J4]
 rw [dims_s (by unfold big; omega)]
 simp [h]
theorem spread1_s {t:Tensor}{is:List Int}(h:TT t)(hi:IV t.Dims is):∃ x,Z08 t is=some x:=by
 have hl:=tlen h
 have hil:=hi.len
 unfold Z08
 have:=loopN (f:=fun s:List Int×Int=>Z08_L1 t is s.1 s.2) (r:=is) (fun j=>(is.take j,(j:Int))) t.Dims.length
  (fun j hj=>by
   have hm:=hi.mem (j:=j) (by omega)
   have e:w64 (w64 ((is.length:Int) - (t.Dims.length:Int))+(j:Int))=(j:Int):=by rw [w64_id (n:=(is.length:Int) - (t.Dims.length:Int)) (by omega) (by omega),w64_id (by omega) (by omega)]; omega
   simp only [Z08_L1,Z08_J2,e]
   rw [if_pos (by simp; omega),if_pos (by omega),if_pos (by omega),w64k (by unfold big; omega)]
   have tk:is.take (j+1)=is.take j++[ix is (j:Int)]:=by rw [List.take_succ_eq_append_getElem (by omega),ix_at (by omega)]
   by_cases c:ix t.Dims (j:Int)=1
   ·rw [if_pos (by simp [c]),if_pos (by simp; omega),tk,show ix is (j:Int)=0 by omega]
   ·rw [if_neg (by simp [c]),if_pos (by simp; omega),tk])
  (by simp only [Z08_L1]; rw [if_neg (by simp),List.take_of_length_le (by omega)])
  (s:=([],0)) rfl
 rw [this]
 simp only [Option.bind_some,Z08_J3]
 obtain ⟨x,g,_⟩:=get_s h hi
 rw [g]
 exact ⟨x,rfl⟩
theorem two_s {op:Int}{t u:Tensor}(ht:TT t)(hu:TT u)(he:t.Dims=u.Dims)(h1:1≤op)(h2:op≤3):∃ d,Z10 op t u=some ⟨t.Dims,d⟩∧TOk t.Dims d:=by
 have hl:=tlen ht
 have hp:=ht.d.2.2
 unfold Z10
 rw [tt_s ht,tt_s hu]
 simp only [Option.bind_some,gcall,Bool.not_true,Bool.not_false,cond_true]
 rw [if_neg (by simp; omega),← he,joint_s ht.d]
 simp only [Option.bind_some]
 rw [if_neg (by simp),new_s ht.d]
 simp only [Option.bind_some]
 obtain ⟨r,e1,e2⟩:=fillL (f:=fun s:List Int×Int=>Z10_L1 op t u t.Dims ⟨t.Dims,List.replicate (pr t.Dims).toNat 0⟩ s.1 s.2) (Post:=fun r=>RG (pr t.Dims).toNat r) (pr t.Dims).toNat (pr t.Dims).toNat
  (fun j hj x hx=>by
   have hi:=idx_IV ht.d.2.1 (j:Int)
   obtain ⟨a,ha⟩:=spread1_s ht hi
   obtain ⟨b,hb⟩:=spread1_s hu (by rw [← he]; exact hi)
   obtain ⟨m,g1,g2⟩:=two1_s (op:=op) (x:=a) (y:=b) h1 h2
   simp only [Z10_L1]
   rw [if_pos (by simp; omega),index_s ht.d (by omega) (by omega)]
   simp only [Option.bind_some,ha,hb,g1]
   rw [if_pos (by simp; omega),w64k (by unfold big; omega)]
   exact ⟨_,rfl,hx.set g2 _⟩)
  (fun x hx=>by simp only [Z10_L1]; rw [if_neg (by simp)]; exact ⟨x,rfl,hx⟩) (RG.rep _)
 rw [e1]
 exact ⟨r,rfl,tok_of ht.d e2⟩
theorem fill_s {ds:List Int}(hb:ds.length<big):(OKD ds→∃ d,Z0o ds 0=some ⟨ds,d⟩∧TOk ds d)∧(¬ OKD ds→Z0o ds 0=some ⟨[],[]⟩):=by
 unfold Z0o
 rw [dims_s hb]
 constructor
 ·intro h
  have hp:=h.2.2
  simp only [h,decide_true,Option.bind_some,Bool.not_true,Bool.false_eq_true,if_false]
  rw [new_s h]
  simp only [Option.bind_some]
  obtain ⟨m,hm,hm2⟩:=mod_s 0
  obtain ⟨r,e1,e2⟩:=fillL (f:=fun s:List Int×Int=>Z0o_L1 0 ⟨ds,List.replicate (pr ds).toNat 0⟩ s.1 s.2) (Post:=fun r=>RG (pr ds).toNat r) (pr ds).toNat (pr ds).toNat
   (fun j hj x hx=>by
    simp only [Z0o_L1]
    rw [if_pos (by simp; omega),hm]
    simp only [Option.bind_some]
    rw [if_pos (by simp; omega),w64k (by unfold big; omega)]
    exact ⟨_,rfl,hx.set hm2 _⟩)
   (fun x hx=>by simp only [Z0o_L1]; rw [if_neg (by simp)]; exact ⟨x,rfl,hx⟩) (RG.rep _)
  rw [e1]
  exact ⟨r,rfl,tok_of h e2⟩
 ·intro h
  simp [h]
theorem plc_len (ds ss:List Int)(off:Int):(plc ds ss off).length=(pr ds).toNat:=by simp [plc]
theorem look_s {t:Tensor}{v:View}(ht:TT t)(hv:VG v.Dims v.Strides v.Offset v.Base)(hb:v.Base=pr t.Dims):∃ d,Z00 t v=some ⟨v.Dims,d⟩∧TOk v.Dims d:=by
 have hl:=tlen ht
 have hn:=hv.d.1
 have hp:=hv.d.2.2
 have hl2:=ht.l
 unfold Z00
 rw [tt_s ht,view_s hv]
 simp only [Option.bind_some,gcall,Bool.not_true,Bool.not_false,cond_true]
 rw [if_neg (by simp; omega),ints_s (by omega),all_s hv.d hv.l hv.s (by have:=hv.o; have:=hv.b; omega)]
 simp only [Option.bind_some]
 have hlen:=plc_len v.Dims v.Strides v.Offset
 obtain ⟨r,e1,e2⟩:=loopI (f:=fun s:List Int×Int=>Z00_L1 t (plc v.Dims v.Strides v.Offset) s.1 s.2) (fun j s=>s.2=(j:Int)∧RG j s.1) (pr v.Dims).toNat (Post:=fun r=>RG (pr v.Dims).toNat r)
  (fun j s hj hI=>by
   obtain ⟨x,i⟩:=s
   obtain ⟨hi,hr⟩:=hI
   simp only at hi
   subst hi
   have hm:0≤ix (plc v.Dims v.Strides v.Offset) (j:Int)∧ix (plc v.Dims v.Strides v.Offset) (j:Int)<v.Base:=by
    have:=ix_mem (xs:=plc v.Dims v.Strides v.Offset) (k:=j) (by omega)
    obtain ⟨k,_,hk⟩:=List.mem_map.1 this
    rw [← hk]
    exact hv.place (idx_IV hv.d.2.1 (k:Int))
   have hnr:=(rg_of ht).ix hm.1 (by have:=(rg_of ht).1; omega)
   have hxl:x.length=j:=hr.1
   simp only [Z00_L1]
   rw [if_pos (by simp; omega),if_pos (by omega),if_pos (by omega),if_pos (by simp; omega),w64k (by unfold big; omega)]
   refine ⟨_,rfl,rfl,by simp [hxl],?_⟩
   intro y hy
   rcases List.mem_append.1 hy with hy | hy
   ·exact hr.2 y hy
   ·rw [List.mem_singleton.1 hy]; exact hnr)
  (fun s hI=>by
   obtain ⟨x,i⟩:=s
   obtain ⟨hi,hr⟩:=hI
   simp only at hi
   subst hi
   simp only [Z00_L1]
   rw [if_neg (by simp; omega)]
   exact ⟨x,rfl,hr⟩) (s:=([],0)) ⟨rfl,rfl,by simp⟩
 rw [e1]
 exact ⟨r,rfl,tok_of hv.d e2⟩
theorem look0_s {t:Tensor}(ht:TT t):Z00 t noView=some ⟨[],[]⟩:=by
 unfold Z00
 rw [tt_s ht]
 simp only [Option.bind_some,gcall,Bool.not_true,Bool.not_false,cond_true]
 rw [show Z8 noView=some false from view0_s]
 simp
theorem reshape_s {ds d:List Int}(h:OKD ds)(hb:d.length<big):Z09 (whole ds) d=some (if OKD d∧pr d=pr ds then whole d else noView):=by
 have hn:=h.1
 have hp:=h.2.2
 have hp1:=h.2.pos
 have hn2:(whole ds).Dims=ds:=rfl
 have hbb:(whole ds).Base=pr ds:=rfl
 unfold Z09
 rw [view_s (VG_wh h)]
 simp only [Option.bind_some,gcall,Bool.not_true,Bool.not_false,cond_true,Bool.false_or,dims_s hb]
 by_cases hd:OKD d
 ·have hd6:=hd.1
  have hdp:=hd.2.pos
  simp only [hd,decide_true,Bool.not_true,Bool.not_false,cond_true,Bool.false_or,true_and,hn2,Option.bind_some]
  rw [size_s hb,if_pos hd.2,size_s (by unfold big; omega),if_pos h.2]
  simp only [Option.bind_some]
  by_cases e:pr d=pr ds
  ·rw [if_neg (by simp [e]),if_pos e,all_s (VG_wh h).d (VG_wh h).l (VG_wh h).s ⟨Int.le_refl 0,by show (0:Int)≤4096; omega⟩,ints_s (by omega)]
   simp only [Option.bind_some]
   have hall:plc (whole ds).Dims (whole ds).Strides (whole ds).Offset=(List.range (pr ds).toNat).map fun k:Nat=>(k:Int):=plc_whole h.2
   obtain ⟨all,ha⟩:∃ all,all=plc (whole ds).Dims (whole ds).Strides (whole ds).Offset:=⟨_,rfl⟩
   rw [← ha] at hall ⊢
   have al:all.length=(pr ds).toNat:=by rw [hall]; simp
   have ai:∀ i:Int,0≤i→i<pr ds→ix all i=i:=by
    intro i h0 h1
    obtain ⟨k,rfl⟩:=Int.eq_ofNat_of_zero_le h0
    rw [ix_at (by omega)]
    simp [hall]
   rw [if_pos (by omega)]
   have:=loopN (f:=fun s:List Int×Int=>Z09_L1 d all s.1 s.2) (r:=stp d) (fun j=>((stp d).take j,(j:Int))) d.length
    (fun j hj=>by
     have hsl:=stp_len d
     have hm:=hd.2.mem (ix_mem hj)
     have tk:(stp d).take (j+1)=(stp d).take j++[if ix d (j:Int)>1 then pr (d.drop (j+1)) else 0]:=by rw [List.take_succ_eq_append_getElem (by omega),← ix_stp hj,ix_at (by omega)]
     simp only [Z09_L1,Z09_J2]
     rw [if_pos (by simp; omega),if_pos (by omega)]
     by_cases c:ix d (j:Int)>1
     ·have q1:=(hd.2.drop (j+1)).pos
      have q2:pr (d.drop j)=ix d (j:Int)*pr (d.drop (j+1)):=by
       have:d.drop j=ix d (j:Int)::d.drop (j+1):=by rw [List.drop_eq_getElem_cons hj,ix_at hj]
       rw [this]; rfl
      have q3:=pr_take_drop d j
      have q4:=(hd.2.take j).pos
      have q5:pr (d.drop j)≤pr d:=by rw [q3]; exact mul_ge' q4 (by have:=(hd.2.drop j).pos; omega)
      have q6:2*pr (d.drop (j+1))≤ix d (j:Int)*pr (d.drop (j+1)):=Int.mul_le_mul_of_nonneg_right (by omega) (by omega)
      rw [if_pos (by simpa using c),w64k (by unfold big; omega),if_pos (by omega),sub_all,Int.toNat_natCast,size_s (by simp [big]; omega),if_pos (hd.2.drop (j+1))]
      simp only [Option.bind_some]
      rw [if_pos (by omega),if_pos (by simp; omega),ai _ (by omega) (by omega),ai 0 (by omega) (by omega),tk,if_pos c,w64_id (by omega) (by omega),Int.sub_zero]
     ·rw [if_neg (by simpa using c),if_pos (by simp; omega),w64k (by unfold big; omega),tk,if_neg c])
    (by simp only [Z09_L1]; rw [if_neg (by simp),List.take_of_length_le (by rw [stp_len]; omega)])
    (s:=([],0)) rfl
   rw [this]
   simp only [Option.bind_some,Z09_J3]
   have hw:(⟨d,stp d,ix all 0,(whole ds).Base⟩:View)=whole d:=by rw [ai 0 (by omega) (by omega),hbb,← e]; rfl
   rw [hw,view_s (VG_wh hd)]
   simp only [Option.bind_some,gcall,Bool.not_true,Bool.not_false,cond_true]
   rw [all_s (VG_wh hd).d (VG_wh hd).l (VG_wh hd).s ⟨Int.le_refl 0,by show (0:Int)≤4096; omega⟩]
   simp only [Option.bind_some]
   have hall2:plc (whole d).Dims (whole d).Strides (whole d).Offset=all:=by rw [hall,← e]; exact plc_whole hd.2
   rw [hall2,same_s (by unfold big; omega)]
   simp
  ·rw [if_pos (by simp [e]),if_neg e]
   rfl
 ·simp [hd,noView]
theorem reshapePairs_i {n:Node}{ds:List Int}(h:OKD ds)(hb:n.Dims.length<big):∃ ps,Z0x n ds=some (if OKD n.Dims∧pr n.Dims=pr ds then (n.Dims,ps,true) else ([],[],false)):=by
 have hn:=h.1
 have hp:=h.2.2
 unfold Z0x
 rw [dims_i hb]
 by_cases hd:OKD n.Dims
 ·simp only [hd,decide_true,Option.bind_some,gcall,Bool.not_true,Bool.not_false,cond_true,Bool.false_or,true_and]
  rw [prod_i hb hd.2,prod_i (by unfold big; omega) h.2]
  simp only [Option.bind_some]
  by_cases e:pr n.Dims=pr ds
  ·rw [if_neg (by simp [e])]
   obtain ⟨r,e1,_⟩:=loopI (f:=fun s:List pair×Int=>Z0x_L1 (pr ds) s.1 s.2) (fun j s=>s.2=(j:Int)∧s.1.length=j) (pr ds).toNat (Post:=fun _=>True)
    (fun j s hj hI=>by
     obtain ⟨x,i⟩:=s
     obtain ⟨hi,hr⟩:=hI
     simp only at hi hr
     subst hi
     simp only [Z0x_L1]
     rw [if_pos (by simp; omega),if_pos (by simp; omega),w64k (by unfold big; omega)]
     exact ⟨_,rfl,rfl,by simp [hr]⟩)
    (fun s hI=>by
     obtain ⟨x,i⟩:=s
     obtain ⟨hi,hr⟩:=hI
     simp only at hi
     subst hi
     have:=h.2.pos
     simp only [Z0x_L1]
     rw [if_neg (by simp; omega)]
     exact ⟨x,rfl,trivial⟩) (s:=([],0)) ⟨rfl,rfl⟩
   rw [e1]
   exact ⟨r,by rw [if_pos e]; rfl⟩
  ·rw [if_pos (by simp [e])]
   exact ⟨[],by rw [if_neg e]⟩
 ·simp [hd,gcall]
end Go.Proofs.YtmpnollfdpdipaaGreat
