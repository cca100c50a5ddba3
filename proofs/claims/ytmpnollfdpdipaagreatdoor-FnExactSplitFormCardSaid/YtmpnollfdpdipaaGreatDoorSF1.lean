import Derived.Test.YtmpnollfdpdipaaGreatDoorSfG
import Derived.Test.YtmpnollfdpdipaaGreatDoorSfF
import Derived.Test.YtmpnollfdpdipaaGreatDoorPL1
set_option linter.unusedVariables false
set_option linter.unusedSimpArgs false
namespace Go.Proofs.YtmpnollfdpdipaaGreatDoor
open Go Go.Pg
def fx (g:aD)(c:UInt8)(w:Int)(ds:List Int):Nat→List Int
 | 0=>ds
 | j+1=>if ix g (j:Int)=c then (fx g c w ds j).set j w else fx g c w ds j
def o0 (g:aD)(c:UInt8)(a:Int):Nat→List Int→List Int
 | 0,is=>is
 | j+1,is=>o0 g c a j (if ix g (j:Int)=c then is.set j (a+ix is (j:Int)) else is)
theorem gn (g:aD)(c:UInt8)(w:Int)(ds:List Int)(j:Nat):(fx g c w ds j).length=ds.length:=by
 induction j with
 | zero=>rfl
 | succ j ih =>
  simp only [fx]
  split
  ·rw [List.length_set,ih]
  ·exact ih
theorem iH (g:aD)(c:UInt8)(w:Int)(ds:List Int){j k:Nat}(h:j≤k)(e:k<ds.length):ix (fx g c w ds j) (k:Int)=ix ds (k:Int):=by
 induction j with
 | zero=>rfl
 | succ j ih =>
  simp only [fx]
  split
  ·have a:k<(fx g c w ds j).length:=by rw [gn]; exact e
   rw [bC (by rw [List.length_set]; exact a),List.getElem_set_ne (by omega),← bC a]
   exact ih (by omega)
  ·exact ih (by omega)
def kt (g:aD)(c:UInt8)(L:Int)(ds:List Int):Prop:=g.length=ds.length∧∀ j:Nat,j<g.length→ix g (j:Int)=c→ix ds (j:Int)=L
theorem lb {g:aD}{c:UInt8}{w L:Int}{ds:List Int}(h:fX ds)(m:kt g c L ds)(h1:1≤w)(h2:w≤L):∀ j,j≤ds.length→fX (fx g c w ds j):=by
 intro j
 induction j with
 | zero=>intro _; exact h
 | succ j ih =>
  intro u
  have a:=ih (by omega)
  simp only [fx]
  split
  ·rename_i e
   have i:j<(fx g c w ds j).length:=by rw [gn]; omega
   have r:ix (fx g c w ds j) (j:Int)=L:=by rw [iH g c w ds (Nat.le_refl j) (by omega)]; exact m.2 j (by have:=m.1; omega) e
   have q:=nq a.2.1 i h1 (by rw [r]; exact h2)
   exact ⟨by simpa using a.1,q.2,Int.le_trans q.1 a.2.2⟩
  ·exact a
theorem rE {g:aD}{c:UInt8}{a w L:Int}{ds:List Int}(q:kt g c L ds)(B:0≤a)(h1:a+w≤L):∀ j,j≤ds.length→∀ is,IV (fx g c w ds j) is→IV ds (o0 g c a j is):=by
 intro j
 induction j with
 | zero=>intro _ is h; exact h
 | succ j ih =>
  intro D is h
  simp only [o0]
  simp only [fx] at h
  by_cases e:ix g (j:Int)=c
  ·rw [if_pos e] at h ⊢
   have i:j<(fx g c w ds j).length:=by rw [gn]; omega
   have m:=h.len
   have r:=h.mem (j:=j) (by rw [m]; simpa using i)
   rw [jH i] at r
   have u:ix (fx g c w ds j) (j:Int)=L:=by rw [iH g c w ds (Nat.le_refl j) (by omega)]; exact q.2 j (by have:=q.1; omega) e
   exact ih (by omega) _ (l4 i h (by omega) (by rw [u]; omega))
  ·rw [if_neg e] at h ⊢
   exact ih (by omega) _ h
theorem ku {g:aD}{c:UInt8}{w L:Int}{ds:List Int}(q:kt g c L ds){a:Int}(B:0≤a)(h1:a+w≤L){j:Nat}(D:j<ds.length){is:List Int}(h:IV (fx g c w ds (j+1)) is)(e:ix g (j:Int)=c) :
  IV (fx g c w ds j) (is.set j (a+ix is (j:Int)))∧0≤ix is (j:Int)∧ix is (j:Int)<w:=by
 simp only [fx] at h
 rw [if_pos e] at h
 have i:j<(fx g c w ds j).length:=by rw [gn]; omega
 have m:=h.len
 have r:=h.mem (j:=j) (by rw [m]; simpa using i)
 rw [jH i] at r
 have u:ix (fx g c w ds j) (j:Int)=L:=by rw [iH g c w ds (Nat.le_refl j) (by omega)]; exact q.2 j (by have:=q.1; omega) e
 exact ⟨l4 i h (by omega) (by rw [u]; omega),r⟩
def lY (g:aD)(c:UInt8)(a w:Int)(t:Tensor)(j:Nat):List Int:=kD (fx g c w t.Dims j) fun is=>ix t.Data (fY t.Dims (o0 g c a j is))
theorem nI {g:aD}{c:UInt8}{a w L:Int}{t:Tensor}(h:TT t)(i:kt g c L t.Dims)(q:0≤a)(e:1≤w)(h1:a+w≤L){j:Nat}(m:j≤t.Dims.length):TOk (fx g c w t.Dims j) (lY g c a w t j):=by
 refine p9 (lb h.d i e (by omega) j m) fun is u=>?_
 have D:=rE i q h1 j m is u
 have r:=gb h.d.2.1 D
 have E:=h.l
 obtain ⟨k,B⟩:=Int.eq_ofNat_of_zero_le r.1
 rw [B]
 exact h.x _ (aN (by omega))
theorem pb {a b:Int}(g:0≤a)(h1:a≤b)(h2:b≤4096):Zs a b=some ((List.range (b - a).toNat).map fun k:Nat=>a+(k:Int)):=by
 unfold Zs
 rw [dN (f:=fun s:List Int×Int=>Zs_L1 b s.1 s.2) (r:=(List.range (b - a).toNat).map fun k:Nat=>a+(k:Int)) (fun k=>((List.range k).map fun k:Nat=>a+(k:Int),a+(k:Int))) (b - a).toNat
  (fun k h=>by
   simp only [Zs_L1]
   rw [if_pos (by simp; omega),if_pos (by simp only [List.length_map,List.length_range,List.length_singleton]; omega),List.range_succ,List.map_append,bH (by omega) (by omega)]
   have e:a+((k+1:Nat):Int)=a+(k:Int)+1:=by omega
   rw [e]
   rfl)
  (by
   have e:a+(((b - a).toNat:Nat):Int)=b:=by omega
   simp only [Zs_L1]
   rw [e,if_neg (by simp)]) (by simp)]
 rfl
theorem nJ {a w:Int}{i:Int}(e:0≤i)(h1:i<w):ix ((List.range w.toNat).map fun k:Nat=>a+(k:Int)) i=a+i:=by
 obtain ⟨k,rfl⟩:=Int.eq_ofNat_of_zero_le e
 rw [bC (by simp; omega)]
 simp
theorem rF {g:aD}{c:UInt8}{a w L:Int}{t:Tensor}(h:TT t)(i:kt g c L t.Dims)(F:0≤a)(r:1≤w)(h1:a+w≤L){j:Nat}(D:j<t.Dims.length)(e:ix g (j:Int)=c) :
  Zx ⟨fx g c w t.Dims j,lY g c a w t j⟩ (j:Int) ((List.range w.toNat).map fun k:Nat=>a+(k:Int))=some ⟨fx g c w t.Dims (j+1),lY g c a w t (j+1)⟩:=by
 have G:TT ⟨fx g c w t.Dims j,lY g c a w t j⟩:=nI h i F r h1 (by omega)
 have J:j<(fx g c w t.Dims j).length:=by rw [gn]; exact D
 have M:ix (fx g c w t.Dims j) (j:Int)=L:=by rw [iH g c w t.Dims (Nat.le_refl j) (by omega)]; exact i.2 j (by have:=i.1; omega) e
 have u:=lb h.d i r (by omega) (j+1) (by omega)
 have Y:L≤4096:=by rw [← i.2 j (by have:=i.1; omega) e]; exact (h.d.2.mem (aN D)).2
 have m:(((List.range w.toNat).map fun k:Nat=>a+(k:Int)).length:Int)=w:=by simp; omega
 have q:(fx g c w t.Dims j).set j w=fx g c w t.Dims (j+1):=by simp only [fx]; rw [if_pos e]
 have B:oO (fx g c w t.Dims j) (j:Int) ((List.range w.toNat).map fun k:Nat=>a+(k:Int)):=by
  refine ⟨by omega,by omega,fun z=>?_,fun x E=>?_,?_⟩
  ·have:=congrArg List.length z; simp at this; omega
  ·obtain ⟨k,O,rfl⟩:=List.mem_map.1 E
   have:=List.mem_range.1 O
   rw [M]; omega
  ·rw [m,Int.toNat_natCast,q]; exact u
 rw [nG G (by simp [cC]; omega) B]
 simp only [Int.toNat_natCast]
 rw [m,q]
 refine congrArg some (congrArg (Tensor.mk _) ?_)
 unfold lY
 refine j7 u.2.1 fun is I=>?_
 obtain ⟨T,U,s3⟩:=ku i F h1 D I e
 rw [nJ U s3,rB (lb h.d i r (by omega) j (by omega)).2.1 _ T]
 simp only [o0]
 rw [if_pos e]
structure CV (g:aD)(c:UInt8)(a w:Int)(ds:List Int)(j:Nat)(v:View):Prop where
 d:v.Dims=fx g c w ds j
 vg:VG v.Dims v.Strides v.Offset v.Base
 s:∀ s∈v.Strides,0≤s
 b:v.Base=pr ds
 p:∀ is,IV v.Dims is→v.Offset+zs (·*·) is v.Strides=fY ds (o0 g c a j is)
theorem cv0 {g:aD}{c:UInt8}{a w:Int}{ds:List Int}(h:fX ds):CV g c a w ds 0 (whole ds):=by
 refine ⟨rfl,nn h,fun s i=>(lF h.2 s i).1,rfl,fun is e=>?_⟩
 have e:IV ds is:=e
 show 0+zs _ is (iT ds)=fY ds is
 rw [ml e]
 exact Int.zero_add _
theorem pc {g:aD}{c:UInt8}{a w L:Int}{ds:List Int}(h:fX ds)(D:kt g c L ds)(B:0≤a)(u:1≤w)(h1:a+w≤L){j:Nat}(F:j<ds.length){v:View}(i:CV g c a w ds j v)(e:ix g (j:Int)=c) :
  ∃ I,Z0j v (j:Int) a w 1=some I∧CV g c a w ds (j+1) I:=by
 have q:j<v.Dims.length:=by rw [i.d,gn]; exact F
 have G:ix v.Dims (j:Int)=L:=by rw [i.d,iH g c w ds (Nat.le_refl j) (by omega)]; exact D.2 j (by have:=D.1; omega) e
 obtain ⟨M,O⟩:=lX i.vg i.s q (fr:=a) u B (by rw [G]; exact h1)
 have m:v.Dims.set j w=fx g c w ds (j+1):=by simp only [fx]; rw [if_pos e,i.d]
 refine ⟨_,nH i.vg i.s q u B (by rw [G]; exact h1),⟨m,M,O,i.b,fun is J=>?_⟩⟩
 have r:IV (v.Dims.set j w) is:=J
 rw [pa i.vg.l q r]
 have E:IV (fx g c w ds (j+1)) is:=by rw [← m]; exact r
 obtain ⟨T,_,_⟩:=ku D B h1 F E e
 rw [i.p _ (by rw [i.d]; exact T)]
 simp only [o0]
 rw [if_pos e]
theorem pd {g:aD}{c:UInt8}{a w:Int}{ds:List Int}{j:Nat}{v:View}(r:CV g c a w ds j v)(e:¬ ix g (j:Int)=c):CV g c a w ds (j+1) v:=by
 obtain ⟨h1,h2,h,i,m⟩:=r
 refine ⟨by simp only [fx]; rw [if_neg e]; exact h1,h2,h,i,fun is q=>?_⟩
 simp only [o0]
 rw [if_neg e]
 exact m is q
theorem nK {g:aD}{c:UInt8}{a w:Int}{t:Tensor}{j:Nat}(e:¬ ix g (j:Int)=c):fx g c w t.Dims (j+1)=fx g c w t.Dims j∧lY g c a w t (j+1)=lY g c a w t j:=by
 constructor
 ·simp only [fx]; rw [if_neg e]
 ·unfold lY
  simp only [fx,o0,if_neg e]
theorem pg {a:List Int}{v:View}(h:VG v.Dims v.Strides v.Offset v.Base)(j:v.Base≤(a.length:Int)) :
  Z0l a v=some ⟨v.Dims,kD v.Dims fun is=>ix a (v.Offset+zs (·*·) is v.Strides)⟩:=by
 have q:=h.d.1
 have r:=h.d.2.pos
 have e:=h.d.2.2
 unfold Z0l
 rw [gP (by omega),kY (by unfold cC; omega) h.d.2]
 simp only [Option.bind_some]
 rw [if_pos (by omega)]
 simp only [Z14,Option.bind_some]
 obtain ⟨y,h1,h2⟩:=mm (YS:=List Int) (YF:=fun (s:List Int) (x:Int)=>Z19 a s x) h (fun k y=>y=(List.range k).map fun k:Nat=>ix a (v.Offset+zs (·*·) (fq v.Dims (k:Int)) v.Strides))
  (fun k y m i=>by
   subst i
   have g:=h.place (ga h.d.2.1 (k:Int))
   simp only [Z19]
   rw [if_pos (by omega),if_pos (by simp; omega)]
   refine ⟨_,rfl,?_⟩
   rw [List.range_succ,List.map_append]
   rfl) (y:=[]) rfl
 rw [h1,h2]
 rfl
theorem kv {g:aD}{c:UInt8}{a w L:Int}{t:Tensor}(h:TT t){v:View}(e:CV g c a w t.Dims t.Dims.length v):Z0l t.Data v=some ⟨fx g c w t.Dims t.Dims.length,lY g c a w t t.Dims.length⟩:=by
 have j:=h.l
 rw [pg e.vg (by rw [e.b]; omega)]
 refine congrArg some ?_
 unfold lY
 rw [← e.d]
 refine congrArg (Tensor.mk _) (j7 e.vg.d.2.1 fun is i=>?_)
 rw [e.p is i]
theorem tW {α:Type}[Inhabited α](xs:List α)(f:List α×Int→Option ((List α×Int)⊕List α))(z:α)
  (h:∀ (ys:List α) (k:Nat),ys.length=xs.length→k<xs.length→f (ys,(k:Int))=some (.inl (ys.set k (ix xs (k:Int)),((k+1:Nat):Int))))
  (e:∀ ys:List α,ys.length=xs.length→f (ys,(xs.length:Int))=some (.inr ys)):aI f (List.replicate xs.length z,0)=some xs:=by
 have:=dN (f:=f) (r:=xs) (fun j=>(xs.take j++List.replicate (xs.length - j) z,(j:Int))) xs.length
  (fun j a=>by
   rw [h _ j (by simp; omega) a]
   congr 3
   rw [List.set_append,if_neg (by simp; omega),List.length_take,Nat.min_eq_left (by omega),Nat.sub_self,List.take_succ_eq_append_getElem a,← bC a]
   obtain ⟨m,g⟩:∃ m,xs.length - j=m+1:=⟨xs.length - j - 1,by omega⟩
   rw [g,List.replicate_succ,List.set_cons_zero,show xs.length - (j+1)=m by omega]
   simp)
  (by
   show f (xs.take xs.length++List.replicate (xs.length - xs.length) z,(xs.length:Int))=_
   rw [List.take_length,Nat.sub_self,List.replicate_zero,List.append_nil]
   exact e _ rfl)
  (s:=(List.replicate xs.length z,0)) (by simp)
 exact this
theorem j8 (c:UInt8):∀ s:aD,Lib.index s [c]=if c∈s then ((s.idxOf c:Nat):Int) else -1
 | []=>by simp [Lib.index]
 | b::l=>by
  have j:=j8 c l
  unfold Lib.index
  by_cases e:b=c
  ·subst e
   simp [List.isPrefixOf,List.idxOf_cons]
  ·have h:([c].isPrefixOf (b::l))=false:=by simp [List.isPrefixOf]; exact fun z=>e z.symm
   have i:(b==c)=false:=by simpa using e
   rw [h,j]
   have g:(c∈b::l)↔c∈l:=by simp; exact fun z=>absurd z.symm e
   by_cases m:c∈l
   ·rw [if_pos m,if_pos (g.2 m),if_neg (by simp),List.idxOf_cons,i]
    have a:((((l.idxOf c:Nat):Int)) == -1)=false:=by simp
    rw [a]
    simp
   ·rw [if_neg m,if_neg (fun z=>m (g.1 z))]; rfl
theorem rG (gs:List aD):Lib.join gs []=gs.flatten:=by
 cases gs with
 | nil=>rfl
 | cons x r =>
  rw [Lib.join_cons]
  simp [Lib.joinTail]
theorem nL (s:aD)(a:s.length≤1048576)(c:UInt8):Z08 s [c]=some (if c∈s then ((s.idxOf c:Nat):Int) else -1):=by
 unfold Z08 bE
 rw [if_pos (by omega),j8]
 rfl
theorem nM {gs:List aD}(e:gs.length≤6)(h:∀ g∈gs,LT g):gs.flatten.length≤36:=by
 have:∀ l:List aD,(∀ g∈l,LT g)→l.flatten.length≤6*l.length:=by
  intro l
  induction l with
  | nil=>intro _; simp
  | cons x r ih =>
   intro h
   have:=ih fun g a=>h g (by simp [a])
   have:=(h x (by simp)).1
   simp only [List.flatten_cons,List.length_append,List.length_cons]
   omega
 have:=this gs h
 omega
theorem lZ {f:aD}(h:(parts f).2.2=true):PO (parts f).1 (parts f).2.1:=by
 revert h; unfold parts
 split
 ·intro h; cases h
 ·split
  ·intro _; assumption
  ·intro h; cases h
def LO (f letter:aD):Prop:=(parts f).2.2=true∧∃ c,letter=[c]∧∃ g∈(parts f).1,c∈g
noncomputable instance (f letter:aD):Decidable (LO f letter):=Classical.propDecidable _
theorem rH {f letter:aD}(r:f.length≤1048576):Z0r f letter=some (if LO f letter then ((parts f).1,(parts f).2.1,true) else ([],[],false)):=by
 unfold Z0r
 rw [lQ r]
 simp only [Option.bind_some]
 by_cases c1:(parts f).2.2=true
 ·by_cases c2:letter.length=1
  ·obtain ⟨c,rfl⟩:=List.length_eq_one_iff.1 c2
   have j:=lZ c1
   have D:=nM j.1 j.2.2.1
   have e:(!((!(parts f).2.2)||((([c]:aD).length:Int) != (1:Int))))=true:=by rw [c1]; rfl
   rw [e]
   simp only [bR,cond_true]
   have u:strings_Join (parts f).1 []=some (parts f).1.flatten:=by
    unfold strings_Join
    rw [rG,if_pos ⟨by have:=j.1; omega,by omega⟩]
   rw [u]
   simp only [Option.bind_some]
   unfold Z17
   rw [nL _ (by omega)]
   simp only [Option.bind_some]
   have a:c∈(parts f).1.flatten↔LO f [c]:=by
    rw [List.mem_flatten]
    exact ⟨fun ⟨g,h1,h2⟩=>⟨c1,c,rfl,g,h1,h2⟩,fun ⟨_,B,q,g,h1,h2⟩=>⟨g,h1,by cases q; exact h2⟩⟩
   by_cases m:LO f [c]
   ·rw [if_pos (a.2 m),if_pos m,c1]
    simp
   ·rw [if_neg (fun z=>m (a.1 z)),if_neg m,c1]
    simp
  ·have e:(!((!(parts f).2.2)||((letter.length:Int) != (1:Int))))=false:=by simp; intro _; omega
   have i:((!(parts f).2.2)||((letter.length:Int) != (1:Int)))=true:=by simp; right; omega
   rw [e,i]
   simp only [bR,cond_false,Option.bind_some,Bool.true_or,if_true]
   rw [if_neg]
   rintro ⟨_,c,rfl,_⟩
   exact c2 rfl
 ·have i:(parts f).2.2=false:=by simpa using c1
  rw [i]
  simp only [bR,Bool.not_false,Bool.true_or,Bool.not_true,cond_false,Option.bind_some,if_true]
  rw [if_neg]
  rintro ⟨h,_⟩
  rw [i] at h; cases h
theorem rI {f letter:aD}(h:(parts f).2.2=true):Z04 (parts f).1 letter=some (decide (LO f letter)):=by
 have q:=lZ h
 unfold Z04
 by_cases c2:letter.length=1
 ·obtain ⟨c,rfl⟩:=List.length_eq_one_iff.1 c2
  rw [if_neg (by simp)]
  have:=dC (parts f).1 (fun s:Int=>Z04_L1 (parts f).1 [c] s) (fun i=>i) (fun g=>!(decide (c∈g))) (.inl true) (.inr ())
   (fun k u=>by
    have j:=q.2.2.1 _ (aN u)
    have a:bt [c] (0:Int)=(c.toNat:Int):=rfl
    simp only [Z04_L1]
    rw [if_pos (by simp; omega),if_pos (by omega),if_pos (by simp),a,nu (by unfold cC; have:=j.1; omega)]
    simp only [Option.bind_some]
    rw [bT (by have:=q.1; unfold cC; omega)]
    cases decide (c∈ix (parts f).1 (k:Int))<;>rfl)
   (by simp only [Z04_L1]; rw [if_neg (by simp)])
  rw [this]
  by_cases m:LO f [c]
  ·obtain ⟨_,B,r,g,h1,h2⟩:=m
   cases r
   have e:((parts f).1.all fun g=>!(decide (c∈g)))=false:=by
    rw [List.all_eq_false]; exact ⟨g,h1,by simp [h2]⟩
   rw [e,decide_eq_true ⟨h,c,rfl,g,h1,h2⟩]; rfl
  ·have e:((parts f).1.all fun g=>!(decide (c∈g)))=true:=by
    rw [List.all_eq_true]; intro g j
    have:c ∉ g:=fun z=>m ⟨h,c,rfl,g,j,z⟩
    simp [this]
   rw [e,decide_eq_false m]; rfl
 ·rw [if_pos (by simp; omega),decide_eq_false]
  rintro ⟨_,c,rfl,_⟩
  exact c2 rfl
instance (t:Tensor):Decidable (TT t):=by unfold TT; infer_instance
theorem tX {ts:List Tensor}(j:ts.length<cC)(g:∀ t∈ts,t.Dims.length<cC∧t.Data.length<cC):Z02 ts=some (decide (∀ t∈ts,TT t)):=by
 unfold Z02
 have:=dC ts (fun s:Int=>Z02_L1 ts s) (fun i=>i) (fun t=>decide (TT t)) (.inl false) (.inr ())
  (fun k h=>by
   have a:=g _ (aN h)
   simp only [Z02_L1]
   rw [if_pos (by simp; omega),if_pos (by omega),rh a.1 a.2]
   simp only [Option.bind_some]
   rw [bT (by omega)]
   show (if (!(decide (TT (ix ts (k:Int)))))=true then _ else _)=_
   cases decide (TT (ix ts (k:Int)))<;>rfl)
  (by simp only [Z02_L1]; rw [if_neg (by simp)])
 rw [this]
 have e:(ts.all fun t=>decide (TT t))=decide (∀ t∈ts,TT t):=by
  rw [Bool.eq_iff_iff]; simp
 rw [e]
 by_cases q:∀ t∈ts,TT t
 ·rw [decide_eq_true q]; rfl
 ·rw [decide_eq_false q]; rfl
theorem mr {ts:List Tensor}(g:ts.length≤1048576):Z0s ts=some (ts.map Tensor.Dims):=by
 unfold Z0s Z06
 rw [if_pos (by omega)]
 have:=tW (ts.map Tensor.Dims) (fun s:(List (List Int))×Int=>Z06_L1 ts s.1 s.2) [] (fun ys k e a=>by
  rw [List.length_map] at a e
  simp only [Z06_L1,Z13]
  rw [if_pos (by simp; omega),if_pos (by omega)]
  simp only [Option.bind_some]
  rw [if_pos (by simp; omega),bT (by unfold cC; omega),bC (xs:=ts) a,bC (xs:=ts.map Tensor.Dims) (by simpa using a),List.getElem_map]; rfl) (fun ys _=>by
  simp only [Z06_L1]
  rw [if_neg (by simp)])
 rw [List.length_map] at this
 rw [Int.toNat_natCast,this]
 rfl
theorem eV {α:Type}[Inhabited α]{n k:Nat}(h:k<n)(f:Nat→α):ix ((List.range n).map f) (k:Int)=f k:=by
 rw [bC (by simpa using h)]; simp
theorem kw {ts:List Tensor}(D:ts.length≤6)(u:∀ t∈ts,t.Dims.length<cC∧t.Data.length<cC):∀ m k:Nat,k+m=ts.length→(∀ j:Nat,j<k→TT (ix ts (j:Int))) →
  aI (fun s:List (List Int)×Int=>Z4_L1 ts s.1 s.2) ((ts.take k).map Tensor.Dims,(k:Int))=some (if ∀ t∈ts,TT t then .inr (ts.map Tensor.Dims) else .inl ⟨[],[]⟩)
 | 0,k,r,h=>by
  have r:k=ts.length:=by omega
  subst r
  have g:∀ t∈ts,TT t:=by
   intro t E
   obtain ⟨j,i,rfl⟩:=List.getElem_of_mem E
   have:=h j i
   rwa [bC i] at this
  rw [if_pos g]
  refine cH ?_
  simp only [Z4_L1]
  rw [if_neg (by simp),List.take_length]
 | m+1,k,r,h=>by
  have a:k<ts.length:=by omega
  have B:=u _ (aN a)
  by_cases q:TT (ix ts (k:Int))
  ·rw [cZ (f:=fun s:List (List Int)×Int=>Z4_L1 ts s.1 s.2) (s':=((ts.take (k+1)).map Tensor.Dims,((k+1:Nat):Int)))
    (by
     simp only [Z4_L1]
     rw [if_pos (by simp; omega),if_pos (by omega),rq q]
     simp only [Option.bind_some]
     rw [if_neg (by simp),if_pos (by simp; omega),bT (by unfold cC; omega),List.take_succ_eq_append_getElem a,List.map_append,bC a]
     rfl)]
   exact kw D u m (k+1) (by omega) fun j i=>by
    by_cases e:j=k
    ·subst e; exact q
    ·exact h j (by omega)
  ·have no:¬ ∀ t∈ts,TT t:=fun z=>q (z _ (aN a))
   rw [if_neg no]
   refine cH ?_
   simp only [Z4_L1]
   rw [if_pos (by simp; omega),if_pos (by omega),ng B.1 B.2]
   simp only [Option.bind_some]
   have e:decide (TOk (ix ts (k:Int)).Dims (ix ts (k:Int)).Data)=false:=decide_eq_false q
   rw [e]
   rfl
theorem ph {f:aD}{ts:List Tensor}(a:f.length≤1048576)(m:(parts f).2.2=true)(D:ts.length<cC)(u:∀ t∈ts,t.Dims.length<cC∧t.Data.length<cC) :
  ∃ r,Z4 f ts=some r∧(((∀ t∈ts,TT t)∧(∃ s,mq f (ts.map Tensor.Dims) s))∧r.Data.length≠0∨¬ ((∀ t∈ts,TT t)∧(∃ s,mq f (ts.map Tensor.Dims) s))∧r.Data.length=0):=by
 have q:=lZ m
 by_cases c1:(parts f).1.length=ts.length
 ·have i:ts.length≤6:=by have:=q.1; omega
  by_cases c2:∀ t∈ts,TT t
  ·rcases la a c2 i with ⟨s,g,d,h,k3⟩|⟨g,h⟩
   ·refine ⟨_,h,.inl ⟨⟨c2,s,g⟩,?_⟩⟩
    have:=k3.l
    have:=k3.d.2.pos
    show d.length≠0
    intro z; omega
   ·exact ⟨_,h,.inr ⟨fun z=>g z.2,rfl⟩⟩
  ·refine ⟨⟨[],[]⟩,?_,.inr ⟨fun z=>c2 z.1,rfl⟩⟩
   unfold Z4
   rw [gm a]
   simp only [Option.bind_some]
   rw [if_neg (by simp [m]; omega)]
   have:=kw i u ts.length 0 (by omega) (fun j B=>absurd B (Nat.not_lt_zero _))
   rw [if_neg c2] at this
   have e:aI (fun s:List (List Int)×Int=>Z4_L1 ts s.1 s.2) ([],0)=some (.inl ⟨[],[]⟩):=this
   rw [e]
   rfl
 ·refine ⟨⟨[],[]⟩,?_,.inr ⟨?_,rfl⟩⟩
  ·unfold Z4
   rw [gm a]
   simp only [Option.bind_some]
   rw [if_pos (by simp; right; omega)]
  ·rintro ⟨_,s,z⟩
   exact c1 (by have:=z.2.1; simpa using this)
section
variable {gs:List aD}{o:aD}{b:List aD×aD×Bool}{ts:List Tensor}{s:aD×List Int}{c:UInt8}
structure FT (gs:List aD)(ts:List Tensor)(c:UInt8)(L:Int):Prop where
 n:gs.length=ts.length
 h6:ts.length≤6
 t:∀ t∈ts,TT t
 g:∀ g∈gs,LT g
 a:∀ i:Nat,i<ts.length→kt (ix gs (i:Int)) c L (ix ts (i:Int)).Dims
 l:1≤L∧L≤4096
theorem tY {f:aD}{ts:List Tensor}(h:PO (parts f).1 (parts f).2.1)(B:∀ t∈ts,TT t){s:aD×List Int}(O:mq f (ts.map Tensor.Dims) s){c:UInt8}(I:∃ g∈(parts f).1,c∈g) :
  FT (parts f).1 ts c (lk s.2 c)∧c∈s.1∧s.1.length≤42:=by
 obtain ⟨h1,h2,G,U⟩:=O
 have M:(parts f).1.length=ts.length:=by simpa using h2
 have q:=i8 h h2 (fun ds J=>by
  obtain ⟨t,T,rfl⟩:=List.mem_map.1 J
  exact (B t T).d) G.1
 have D:∀ i:Nat,i<ts.length→kt (ix (parts f).1 (i:Int)) c (lk s.2 c) (ix ts (i:Int)).Dims:=by
  intro i m
  have a:=q.g i (by omega)
  have e:ix (ts.map Tensor.Dims) (i:Int)=(ix ts (i:Int)).Dims:=by rw [bC (by simpa using m),List.getElem_map,bC m]
  rw [e] at a
  refine ⟨a.1,fun j r E=>?_⟩
  have:=(a.2 j r).2
  rw [E] at this
  exact this.symm
 obtain ⟨g,g1,F⟩:=I
 obtain ⟨i,m,rfl⟩:=List.getElem_of_mem g1
 obtain ⟨j,r,e⟩:=List.getElem_of_mem F
 have a:=q.g i m
 rw [bC m] at a
 have u:=(a.2 j r).1
 rw [bC r,e] at u
 refine ⟨⟨M,by have:=h.1; omega,B,h.2.2.1,D,?_⟩,u,q.l⟩
 have:=q.d (lk s.2 c) (List.mem_map.2 ⟨c,u,rfl⟩)
 exact this
variable {L:Int}
theorem nN {g:aD}{j:Nat}:(bt g (j:Int)==bt [c] (0:Int))=decide (ix g (j:Int)=c):=gc
theorem tZ (h:FT gs ts c L)(u:b.1=gs){i:Nat}(E:i<gs.length)(x:Int):aI (fun z:Int×Int=>Z0_L2 [c] ts b (i:Int) z.1 z.2) (x,0)=some (if c∈ix gs (i:Int) then L else x):=by
 subst u
 have B:=h.g _ (aN E)
 have r:=h.a i (by have:=h.n; omega)
 have F:=h.n
 refine dN (f:=fun z:Int×Int=>Z0_L2 [c] ts b (i:Int) z.1 z.2) (fun j=>(if c∈(ix b.1 (i:Int)).take j then L else x,(j:Int))) (ix b.1 (i:Int)).length (fun j q=>?_) ?_ (by simp)
 ·have D:=B.1
  simp only [Z0_L2,Z0_J5]
  rw [if_pos (by omega),if_pos (by simp; omega),if_pos (by omega),if_pos (by simp),nN,List.take_succ_eq_append_getElem q,← bC q,bT (by unfold cC; omega)]
  by_cases e:ix (ix b.1 (i:Int)) (j:Int)=c
  ·rw [decide_eq_true e,if_pos rfl,if_pos (by omega),if_pos (by have:=r.1; omega),r.2 j q e,if_pos (by simp [e])]
  ·rw [decide_eq_false e,if_neg (by simp)]
   congr 3
   by_cases m:c∈(ix b.1 (i:Int)).take j
   ·rw [if_pos m,if_pos (by simp [m])]
   ·rw [if_neg m,if_neg (by simp [m]; exact fun z=>e z.symm)]
 ·simp only [Z0_L2]
  rw [if_pos (by omega),if_neg (by simp),List.take_length]
theorem t' (h:FT gs ts c L)(j:b.1=gs):aI (fun z:Int×Int=>Z0_L1 [c] ts b z.1 z.2) (0,0)=some (if ∃ g∈gs,c∈g then L else 0):=by
 have B:=h.n
 have u:=h.h6
 refine dN (f:=fun z:Int×Int=>Z0_L1 [c] ts b z.1 z.2) (fun i=>(if ∃ g∈gs.take i,c∈g then L else 0,(i:Int))) gs.length (fun i r=>?_) ?_ (by simp)
 ·simp only [Z0_L1]
  rw [j,if_pos (by simp; omega),tZ h j r]
  simp only [Option.bind_some,Z0_J6]
  rw [bT (by unfold cC; omega),List.take_succ_eq_append_getElem r,← bC r]
  congr 3
  by_cases e:c∈ix gs (i:Int)
  ·rw [if_pos e,if_pos ⟨_,by simp,e⟩]
  ·rw [if_neg e]
   by_cases m:∃ g∈gs.take i,c∈g
   ·obtain ⟨g,g1,a⟩:=m
    rw [if_pos ⟨g,g1,a⟩,if_pos ⟨g,by simp [g1],a⟩]
   ·rw [if_neg m,if_neg]
    rintro ⟨g,g1,a⟩
    rcases List.mem_append.1 g1 with q | q
    ·exact m ⟨g,q,a⟩
    ·simp at q; subst q; exact e a
 ·simp only [Z0_L1]
  rw [j,if_neg (by simp),List.take_length]
def fr (L n:Int)(k:Nat):Int:=(k:Int)*L / n
theorem nO {n:Int}(h1:1≤n)(h2:n≤L)(j:1≤L){k:Nat}(i:(k:Int)<n):0≤fr L n k∧fr L n k+1≤fr L n (k+1)∧fr L n (k+1)≤L:=by
 have a:0≤(k:Int)*L:=Int.mul_nonneg (by omega) (by omega)
 have e:((k+1:Nat):Int)*L=(k:Int)*L+L:=by rw [Int.natCast_add,Int.add_mul]; simp
 refine ⟨Int.ediv_nonneg a (by omega),?_,?_⟩
 ·unfold fr
  rw [e]
  have g:((k:Int)*L+1*n) / n=(k:Int)*L / n+1:=Int.add_mul_ediv_right _ _ (by omega)
  have h:((k:Int)*L+1*n) / n≤((k:Int)*L+L) / n:=Int.ediv_le_ediv (by omega) (by omega)
  omega
 ·unfold fr
  have a3:((k+1:Nat):Int)*L≤n*L:=Int.mul_le_mul_of_nonneg_right (by omega) (by omega)
  refine Int.ediv_le_of_le_mul (by omega) ?_
  rw [Int.mul_comm L n]; exact a3
theorem rJ {n:Int}(h1:1≤n)(e:n≤64)(g:1≤L∧L≤4096){k:Nat}(h:(k:Int)≤n):aK ((aK ((k:Int)*L)).tdiv n)=fr L n k:=by
 have a:0≤(k:Int)*L:=Int.mul_nonneg (by omega) (by omega)
 have i:(k:Int)*L≤64*4096:=Int.mul_le_mul (by omega) g.2 (by omega) (by omega)
 have j:=Int.ediv_nonneg a (show 0≤n by omega)
 have k3:=Int.ediv_le_self n a
 rw [bH (n:=(k:Int)*L) (by omega) (by omega),Int.tdiv_eq_ediv_of_nonneg a,bH (by omega) (by omega)]
 rfl
def s0 (g:aD)(c:UInt8)(a w:Int)(t:Tensor):Tensor:=⟨fx g c w t.Dims t.Dims.length,lY g c a w t t.Dims.length⟩
def row (gs:List aD)(ts:List Tensor)(c:UInt8)(a w:Int):List Tensor:=(List.range ts.length).map fun i:Nat=>s0 (ix gs (i:Int)) c a w (ix ts (i:Int))
theorem rK (h:FT gs ts c L)(E:b.1=gs){n:Int}(h1:1≤n)(g:n≤64)(u:n≤L){k:Nat}(J:(k:Int)<n){i:Nat}(B:i<ts.length) :
  aI (fun z:List Int×List Int×Int=>Z0_L5 [c] n b L (k:Int) (i:Int) z.1 z.2.1 z.2.2) ((ix ts (i:Int)).Dims,(ix ts (i:Int)).Data,0) =
   some ((s0 (ix gs (i:Int)) c (fr L n k) (fr L n (k+1) - fr L n k) (ix ts (i:Int))).Dims,(s0 (ix gs (i:Int)) c (fr L n k) (fr L n (k+1) - fr L n k) (ix ts (i:Int))).Data):=by
 subst E
 obtain ⟨f1,U,Y⟩:=nO h1 u h.l.1 J
 have r:=h.a i B
 have m:=h.t _ (aN B)
 have Z:=h.n
 have D:=h.l
 have F:=m.d.1
 obtain ⟨w,hw⟩:∃ w,w=fr L n (k+1) - fr L n k:=⟨_,rfl⟩
 rw [← hw]
 refine dN (f:=fun z:List Int×List Int×Int=>Z0_L5 [c] n b L (k:Int) (i:Int) z.1 z.2.1 z.2.2)
  (fun j=>(fx (ix b.1 (i:Int)) c w (ix ts (i:Int)).Dims j,lY (ix b.1 (i:Int)) c (fr L n k) w (ix ts (i:Int)) j,(j:Int))) (ix ts (i:Int)).Dims.length (fun j I=>?_) ?_ ?_
 ·have G:=r.1
  simp only [Z0_L5,Z0_J19]
  rw [if_pos (by omega),if_pos (by simp; omega),if_pos (by omega),if_pos (by simp),nN]
  by_cases e:ix (ix b.1 (i:Int)) (j:Int)=c
  ·have T:((List.range (fr L n (k+1) - fr L n k).toNat).map fun q:Nat=>fr L n k+(q:Int))=(List.range w.toNat).map fun q:Nat=>fr L n k+(q:Int):=by rw [← hw]
   rw [decide_eq_true e,if_pos rfl,if_pos (by omega),rJ h1 g D (by omega),bT (k:=k) (by unfold cC; omega),rJ h1 g D (by omega),pb f1 (by omega) (by omega)]
   simp only [Option.bind_some]
   rw [T,rF m r f1 (by omega) (by omega) I e]
   simp only [Option.bind_some]
   rw [bT (by unfold cC; omega)]
  ·obtain ⟨M,O⟩:=nK (a:=fr L n k) (w:=w) (t:=ix ts (i:Int)) e
   rw [decide_eq_false e,if_neg (by simp),M,O,bT (by unfold cC; omega)]
 ·have G:=r.1
  simp only [Z0_L5]
  rw [if_pos (by omega),if_neg (by simp; omega)]
  rfl
 ·have e:lY (ix b.1 (i:Int)) c (fr L n k) w (ix ts (i:Int)) 0=(ix ts (i:Int)).Data:=by
   unfold lY fx o0
   exact (p7 m.d.2.1 m.l).symm
  rw [e]; rfl
end
theorem ms {x:Int}(a:0≤x)(h1:x≤65536):aK x=x:=bH (by omega) (by omega)
section
variable {gs:List aD}{b:List aD×aD×Bool}{ts:List Tensor}{c:UInt8}{L:Int}
theorem gV (gs:List aD)(ts:List Tensor)(c:UInt8)(a w:Int):(row gs ts c a w).length=ts.length:=by simp [row]
theorem u0 (h:FT gs ts c L)(r:b.1=gs){n:Int}(h1:1≤n)(j:n≤64)(m:n≤L){k:Nat}(F:(k:Int)<n) :
  aI (fun z:List Tensor×Int=>Z0_L4 [c] n ts b L (k:Int) z.1 z.2) ([],0)=some (row gs ts c (fr L n k) (fr L n (k+1) - fr L n k)):=by
 have G:=h.h6
 refine dN (f:=fun z:List Tensor×Int=>Z0_L4 [c] n ts b L (k:Int) z.1 z.2) (fun i=>((row gs ts c (fr L n k) (fr L n (k+1) - fr L n k)).take i,(i:Int))) ts.length (fun i g=>?_) ?_ (by simp)
 ·have q:=h.t _ (aN g)
  have B:=q.d.1
  have D:=q.l
  have E:=q.d.2.2
  have a:i<(row gs ts c (fr L n k) (fr L n (k+1) - fr L n k)).length:=by rw [gV]; exact g
  simp only [Z0_L4]
  rw [if_pos (by simp; omega),if_pos (by omega)]
  have u:Z0z (ix ts (i:Int))=some (ix ts (i:Int)):=by
   unfold Z0z
   rw [jC (by omega),jC (by omega)]
   rfl
  rw [u]
  simp only [Option.bind_some]
  rw [rK h r h1 j m F g]
  simp only [Option.bind_some,Z0_J20]
  rw [if_pos (by simp; omega),bT (by unfold cC; omega),List.take_succ_eq_append_getElem a,← bC a]
  have e:ix (row gs ts c (fr L n k) (fr L n (k+1) - fr L n k)) (i:Int)=s0 (ix gs (i:Int)) c (fr L n k) (fr L n (k+1) - fr L n k) (ix ts (i:Int)):=eV g _
  rw [e]
 ·simp only [Z0_L4]
  rw [if_neg (by simp),List.take_of_length_le (by rw [gV]; omega)]
theorem rL (h:FT gs ts c L)(Z:b.1=gs){a w:Int}(Y:0≤a)(I:1≤w)(D:a+w≤L){i:Nat}(J:i<ts.length) :
  ∃ v,aI (fun z:List Int×List Int×Int×Int×Int=>Z5_L3 [c] b a (a+w) (i:Int) z.1 z.2.1 z.2.2.1 z.2.2.2.1 z.2.2.2.2) ((whole (ix ts (i:Int)).Dims).Dims,(whole (ix ts (i:Int)).Dims).Strides,(whole (ix ts (i:Int)).Dims).Offset,(whole (ix ts (i:Int)).Dims).Base,0)=some (v.Dims,v.Strides,v.Offset,v.Base) ∧
   CV (ix gs (i:Int)) c a w (ix ts (i:Int)).Dims (ix ts (i:Int)).Dims.length v:=by
 subst Z
 have B:=h.a i J
 have M:=h.t _ (aN J)
 have hn:=h.n
 have hg:=h.g _ (aN (xs:=b.1) (k:=i) (by omega))
 have hl:=h.l
 obtain ⟨r,q1,v,q2,q3⟩:=hO (f:=fun z:List Int×List Int×Int×Int×Int=>Z5_L3 [c] b a (a+w) (i:Int) z.1 z.2.1 z.2.2.1 z.2.2.2.1 z.2.2.2.2)
  (fun j z=>z.2.2.2.2=(j:Int)∧CV (ix b.1 (i:Int)) c a w (ix ts (i:Int)).Dims j ⟨z.1,z.2.1,z.2.2.1,z.2.2.2.1⟩) (ix ts (i:Int)).Dims.length
  (Post:=fun r=>∃ v:View,r=(v.Dims,v.Strides,v.Offset,v.Base)∧CV (ix b.1 (i:Int)) c a w (ix ts (i:Int)).Dims (ix ts (i:Int)).Dims.length v)
  (fun j z hj u=>by
   obtain ⟨O,T,z3,z4,z5⟩:=z
   obtain ⟨q,m⟩:=u
   dsimp only at q m
   subst q
   have F:j<(ix b.1 (i:Int)).length:=by have:=B.1; omega
   have hc:=hg.2 _ (aN F)
   have E:bt (ix b.1 (i:Int)) (j:Int)<128:=by simp only [bt]; omega
   have G:nk (ix b.1 (i:Int)) (j:Int)=((j+1:Nat):Int):=by rw [sJ (by omega)]; omega
   simp only [Z5_L3]
   rw [if_pos ⟨by omega,fun _=>E⟩,if_pos (by simp; omega),if_pos (by omega),if_pos (by simp),nN,G]
   by_cases e:ix (ix b.1 (i:Int)) (j:Int)=c
   ·obtain ⟨v',k1,k2⟩:=pc M.d B Y I D hj m e
    have U:aK (a+w - a)=w:=by rw [ms (by omega) (by omega)]; omega
    rw [decide_eq_true e,if_pos rfl,U,k1]
    exact ⟨_,rfl,rfl,k2⟩
   ·rw [decide_eq_false e,if_neg (by simp)]
    exact ⟨_,rfl,rfl,pd m e⟩)
  (fun z u=>by
   obtain ⟨O,T,z3,z4,z5⟩:=z
   obtain ⟨q,m⟩:=u
   dsimp only at q m
   subst q
   have a0:=B.1
   simp only [Z5_L3]
   rw [if_pos ⟨by omega,fun z=>by omega⟩,if_neg (by simp; omega)]
   exact ⟨_,rfl,⟨O,T,z3,z4⟩,rfl,m⟩)
  (s:=((whole (ix ts (i:Int)).Dims).Dims,(whole (ix ts (i:Int)).Dims).Strides,(whole (ix ts (i:Int)).Dims).Offset,(whole (ix ts (i:Int)).Dims).Base,0)) ⟨rfl,cv0 M.d⟩
 subst q2
 exact ⟨v,q1,q3⟩
theorem u3 (h:FT gs ts c L)(r:b.1=gs){a w:Int}(B:0≤a)(q:1≤w)(m:a+w≤L) :
  aI (fun z:List Tensor×Int=>Z5_L2 [c] ts b a (a+w) z.1 z.2) ([],0)=some (row gs ts c a w):=by
 have F:=h.h6
 have G:=h.n
 refine dN (f:=fun z:List Tensor×Int=>Z5_L2 [c] ts b a (a+w) z.1 z.2) (fun i=>((row gs ts c a w).take i,(i:Int))) ts.length (fun i j=>?_) ?_ (by simp)
 ·have u:=h.t _ (aN j)
  have g:i<(row gs ts c a w).length:=by rw [gV]; exact j
  obtain ⟨v,v1,E⟩:=rL h r B q m j
  simp only [Z5_L2]
  rw [if_pos (by simp; omega),if_pos (by omega),oL u.d]
  simp only [Option.bind_some]
  rw [if_pos (by rw [r]; omega),v1]
  simp only [Option.bind_some,Z5_J5]
  have D:(⟨v.Dims,v.Strides,v.Offset,v.Base⟩:View)=v:=rfl
  rw [D,kv (L:=L) u E]
  simp only [Option.bind_some]
  rw [if_pos (by simp; omega),bT (by unfold cC; omega),List.take_succ_eq_append_getElem g,← bC g]
  have e:ix (row gs ts c a w) (i:Int)=s0 (ix gs (i:Int)) c a w (ix ts (i:Int)):=eV j _
  rw [e]
  rfl
 ·simp only [Z5_L2]
  rw [if_neg (by simp),List.take_of_length_le (by rw [gV]; omega)]
def eK (gs:List aD)(ts:List Tensor)(c:UInt8)(L n:Int):List (List Tensor):=(List.range n.toNat).map fun k:Nat=>row gs ts c (fr L n k) (fr L n (k+1) - fr L n k)
theorem nP (h:FT gs ts c L)(q:b.1=gs){n:Int}(h1:1≤n)(g:n≤64)(i:n≤L) :
  aI (fun z:List (List Tensor)×Int=>Z0_L3 [c] n ts b L z.1 z.2) ([],0)=some (eK gs ts c L n):=by
 have m:(eK gs ts c L n).length=n.toNat:=by simp [eK]
 refine dN (f:=fun z:List (List Tensor)×Int=>Z0_L3 [c] n ts b L z.1 z.2) (fun k=>((eK gs ts c L n).take k,(k:Int))) n.toNat (fun k j=>?_) ?_ (by simp)
 ·have a:k<(eK gs ts c L n).length:=by rw [m]; exact j
  simp only [Z0_L3]
  rw [if_pos (by simp; omega),u0 h q h1 g i (k:=k) (by omega)]
  simp only [Option.bind_some,Z0_J21]
  rw [if_pos (by simp; omega),bT (by unfold cC; omega),List.take_succ_eq_append_getElem a,← bC a]
  have e:ix (eK gs ts c L n) (k:Int)=row gs ts c (fr L n k) (fr L n (k+1) - fr L n k):=eV j _
  rw [e]
 ·simp only [Z0_L3]
  rw [if_neg (by simp; omega),List.take_of_length_le (by rw [m]; omega)]
theorem nQ {n:Int}(h1:1≤n)(a:n≤64)(g:1≤L∧L≤4096){k:Nat}(e:(k:Int)≤n):Z0g (k:Int) L n=some (fr L n k):=by
 unfold Z0g
 rw [if_pos (by omega),rJ h1 a g e]
theorem nR (h:FT gs ts c L)(u:b.1=gs){n:Int}(h1:1≤n)(a:n≤64)(i:n≤L){fm:form×Bool}{r:Int}(B:ix fm.1.loops r=L) :
  aI (fun z:List (List Tensor)×Int=>Z5_L1 [c] n ts b fm r z.1 z.2) ([],0)=some (eK gs ts c L n):=by
 have q:(eK gs ts c L n).length=n.toNat:=by simp [eK]
 refine dN (f:=fun z:List (List Tensor)×Int=>Z5_L1 [c] n ts b fm r z.1 z.2) (fun k=>((eK gs ts c L n).take k,(k:Int))) n.toNat (fun k m=>?_) ?_ (by simp)
 ·have g:k<(eK gs ts c L n).length:=by rw [q]; exact m
  obtain ⟨f1,D,E⟩:=nO h1 i h.l.1 (k:=k) (by omega)
  simp only [Z5_L1]
  rw [if_pos (by simp; omega),B,nQ h1 a h.l (k:=k) (by omega),bT (k:=k) (by unfold cC; omega),nQ h1 a h.l (k:=k+1) (by omega)]
  simp only [Option.bind_some]
  have j:=u3 h u f1 (w:=fr L n (k+1) - fr L n k) (by omega) (by omega)
  rw [show fr L n k+(fr L n (k+1) - fr L n k)=fr L n (k+1) by omega] at j
  rw [j]
  simp only [Option.bind_some,Z5_J6]
  rw [if_pos (by simp; omega),List.take_succ_eq_append_getElem g,← bC g]
  have e:ix (eK gs ts c L n) (k:Int)=row gs ts c (fr L n k) (fr L n (k+1) - fr L n k):=eV m _
  rw [e,bT (by unfold cC; omega)]
 ·simp only [Z5_L1]
  rw [if_neg (by simp; omega),List.take_of_length_le (by rw [q]; omega)]
end
theorem lc {f letter:aD}{n:Int}{ts:List Tensor}(m:f.length≤1048576)(hn:ts.length≤1048576)(E:∀ t∈ts,t.Dims.length<cC∧t.Data.length<cC) :
  ∃ x D,Z0 f letter n ts=some (x,D)∧Z5 f letter n ts=some (x,D)∧x.length≤64∧∀ y∈x,y.length≤6∧∀ t∈y,t.Dims.length≤6∧t.Data.length≤4096:=by
 have I:ts.length<cC:=by unfold cC; omega
 have no:(∃ x D,Z0 f letter n ts=some (x,D)∧Z0 f letter n ts=some ([],false)∧Z5 f letter n ts=some ([],false))→∃ x D,Z0 f letter n ts=some (x,D)∧Z5 f letter n ts=some (x,D)∧x.length≤64∧∀ y∈x,y.length≤6∧∀ t∈y,t.Dims.length≤6∧t.Data.length≤4096 :=
  fun ⟨_,_,_,h2,h3⟩=>⟨[],false,h2,h3,by simp,by simp⟩
 by_cases a1:LO f letter
 ·have p1:=a1.1
  have hP:=lZ p1
  obtain ⟨_,c,rfl,hc⟩:=id a1
  by_cases a2:1≤n∧n≤64
  ·have F:(decide (n≥1)&&decide (n≤64))=true:=by simp; omega
   obtain ⟨r,r1,r2⟩:=ph m p1 I E
   have g:Z0 f [c] n ts=if (r.Data.length:Int)=0 then some ([],false) else ((aI (fun s:Int×Int=>Z0_L1 [c] ts (parts f) s.1 s.2) (0,0)).bind fun e=>Z0_J7 [c] n ts (parts f) e):=by
    unfold Z0
    rw [gm m]
    simp only [Option.bind_some]
    rw [rI p1,p1,decide_eq_true a1]
    simp only [Bool.not_true,Bool.not_false,bR,cond_true,Option.bind_some,Bool.false_or,Z0y]
    rw [F]
    simp only [Bool.not_true,Bool.not_false,cond_true,Bool.false_or,r1,Option.bind_some]
    by_cases z:(r.Data.length:Int)=0
    ·rw [if_pos z,if_pos (by simp [z])]
    ·rw [if_neg z,if_neg (by simpa using z)]
   have h:Z5 f [c] n ts=if ∀ t∈ts,TT t then ((Z3 f (ts.map Tensor.Dims)).bind fun (j:form×Bool) =>
     if (!j.2)=true then (some (([]:List (List Tensor)),false)) else (
      (Z08 j.1.order [c]).bind fun (u:Int) =>
      if (0≤u∧u<(j.1.loops.length:Int)) then
       if (decide ((ix j.1.loops u)<n))=true then (some (([]:List (List Tensor)),false)) else (
        (aI (fun s:(List (List Tensor))×Int=>Z5_L1 [c] n ts ((parts f).1,(parts f).2.1,true) j u s.1 s.2) (([]:List (List Tensor)),(0:Int))).bind fun e=>Z5_J7 e)
      else none)) else some ([],false):=by
    unfold Z5
    rw [rH m,if_pos a1]
    simp only [Option.bind_some,Bool.not_true,Bool.not_false,bR,cond_true,Z0t]
    rw [F]
    simp only [Bool.not_true,Bool.not_false,cond_true,Bool.false_or,tX I E,Option.bind_some]
    by_cases z:∀ t∈ts,TT t
    ·rw [if_pos z,decide_eq_true z,if_neg (by simp),mr hn]
     rfl
    ·rw [if_neg z,decide_eq_false z,if_pos (by simp)]
   rcases r2 with ⟨⟨J,s,M⟩,q3⟩|⟨J,q3⟩
   ·obtain ⟨B,hm,a0⟩:=tY hP J M hc
    obtain ⟨L,Z⟩:∃ L,L=lk s.2 c:=⟨_,rfl⟩
    rw [← Z] at B
    have hl:=B.l
    rw [if_neg (by omega),t' B rfl] at g
    simp only [Option.bind_some] at g
    rw [if_pos hc] at g
    rw [if_pos J] at h
    rcases ks m (fun ds E=>by
     obtain ⟨t,q,rfl⟩:=List.mem_map.1 E
     exact (J t q).d) with ⟨_,_,s',q,k2,fm,k3,k4,k5,k6⟩|⟨q,_⟩
    ·have Y:s'=s:=by
      have z:=q.1
      rw [M.2.2.1.1] at z
      exact (Option.some.inj z).symm
     subst Y
     rw [k3] at h
     simp only [Option.bind_some,Bool.not_true,Bool.false_eq_true,if_false] at h
     have T:Z08 fm.order [c]=some ((s'.1.idxOf c:Nat):Int):=by rw [k5,nL _ (by omega),if_pos hm]
     have O:s'.1.idxOf c<s'.1.length:=List.idxOf_lt_length_of_mem hm
     rw [T] at h
     simp only [Option.bind_some] at h
     have G:ix fm.loops ((s'.1.idxOf c:Nat):Int)=L:=by
      rw [k6,jL O,List.getElem_idxOf,Z]
     rw [if_pos (by rw [k6]; simp; omega),G] at h
     simp only [Z0_J7] at g
     by_cases d:L<n
     ·rw [if_pos (by simpa using d)] at g h
      exact no ⟨_,_,g,g,h⟩
     ·rw [if_neg (by simpa using d)] at g h
      rw [nP B rfl a2.1 a2.2 (by omega)] at g
      rw [nR (b:=((parts f).1,(parts f).2.1,true)) (fm:=(fm,true)) B rfl a2.1 a2.2 (by omega) G] at h
      refine ⟨_,true,g,h,by simp [eK]; omega,fun y hy=>?_⟩
      obtain ⟨k,kk,rfl⟩:=List.mem_map.1 hy
      have hk:=List.mem_range.1 kk
      obtain ⟨f1,f2,f3⟩:=nO a2.1 (show n≤L by omega) hl.1 (k:=k) (by omega)
      refine ⟨by rw [gV]; exact B.h6,fun t ht=>?_⟩
      obtain ⟨i,ii,rfl⟩:=List.mem_map.1 ht
      have hi:=List.mem_range.1 ii
      have hT:=B.t _ (aN hi)
      have U:TT (s0 (ix (parts f).1 (i:Int)) c (fr L n k) (fr L n (k+1) - fr L n k) (ix ts (i:Int))):=nI hT (B.a i hi) f1 (by omega) (by omega) (Nat.le_refl _)
      have:=rp U
      exact ⟨this.2,this.1⟩
    ·exact absurd ⟨M.1,M.2.1,s,M.2.2⟩ q
   ·rw [if_pos (by omega)] at g
    by_cases z:∀ t∈ts,TT t
    ·rw [if_pos z] at h
     rcases ks m (fun ds E=>by
      obtain ⟨t,q,rfl⟩:=List.mem_map.1 E
      exact (z t q).d) with ⟨q,k2,s',k3,k4,_⟩|⟨_,fm,k3⟩
     ·exact absurd ⟨z,s',q,k2,k3,k4⟩ J
     ·rw [k3] at h
      exact no ⟨_,_,g,g,h⟩
    ·rw [if_neg z] at h
     exact no ⟨_,_,g,g,h⟩
  ·have F:(decide (n≥1)&&decide (n≤64))=false:=by simp; omega
   have g:Z0 f [c] n ts=some ([],false):=by
    unfold Z0
    rw [gm m]
    simp only [Option.bind_some]
    rw [rI p1,p1,decide_eq_true a1]
    simp only [Bool.not_true,Bool.not_false,bR,cond_true,Option.bind_some,Bool.false_or,Z0y]
    rw [F]
    rfl
   have h:Z5 f [c] n ts=some ([],false):=by
    unfold Z5
    rw [rH m,if_pos a1]
    simp only [Option.bind_some,Bool.not_true,Bool.not_false,bR,cond_true,Z0t]
    rw [F]
    rfl
   exact no ⟨_,_,g,g,h⟩
 ·have g:Z0 f letter n ts=some ([],false):=by
   unfold Z0
   rw [gm m]
   simp only [Option.bind_some]
   cases p1:(parts f).2.2 with
   | false=>rfl
   | true =>
    rw [rI p1,decide_eq_false a1]
    rfl
  have h:Z5 f letter n ts=some ([],false):=by
   unfold Z5
   rw [rH m,if_neg a1]
   rfl
  exact no ⟨_,_,g,g,h⟩
noncomputable def Z0e_J1:Option (Bool) :=
 some true
noncomputable def Z0e_L1 (e:(List Int))(g:(List Int))(a:Int):Option ((Int)⊕((Bool)⊕(Unit))) :=
 if (decide (a<(e.length:Int)))=true then (
 if (0≤a∧a<(e.length:Int)) then
 if (0≤a∧a<(g.length:Int)) then
 if ((ix e a) != (ix g a))=true then (
 some (.inr (.inl false)))
 else (
 some (.inl (aK (a+(1:Int)))))
 else none
 else none)
 else (
 some (.inr (.inr ())))
noncomputable def Z0e (a:(List Int))(g:(List Int)):Option (Bool) :=
 if ((a.length:Int) != (g.length:Int))=true then (
 some false)
 else (
 (aI (fun s:Int=>Z0e_L1 a g s) (0:Int)).bind fun e=>match e with
 | .inl e=>some e
 | .inr e=>Z0e_J1)
def uc:Nat:=9223372036854775807
def fM (n:Nat)(a:Int):Int:=if a<(n:Int) then -1 else a - n
def iV {α:Type}(n:α→Nat)(xs:List α):Nat:=xs.length+(xs.map n).sum
theorem jN {a b:Nat}{e:Int}(g:0≤e):fM (a+b) e=if fM a e<0 then -1 else fM b (fM a e):=by
 unfold fM
 (repeat' split)<;>omega
theorem iI {a:Nat}{e:Int}(g:0≤e)(h:¬ fM a e<0):0≤fM a e∧fM a e≤e∧fM a e=e - a:=by
 unfold fM at *
 split at h<;>rename_i q
 ·exact absurd (by decide) h
 ·rw [if_neg q]; omega
theorem pi {n:Nat}{a:Int}(e:n≤uc)(g:0≤a)(h1:a≤1048576) :
  (if (decide ((aK (a - (n:Int)))<(0:Int)))=true then (some (-1:Int)) else (some (aK (a - (n:Int)))))=some (fM n a):=by
 unfold uc at e
 rw [bH (by omega) (by omega)]
 unfold fM
 by_cases h:a<(n:Int)
 ·rw [if_pos (by simp; omega),if_pos h]
 ·rw [if_neg (by simp; omega),if_neg h]
theorem pj {α:Type}[Inhabited α](xs:List α)(n:α→Nat)(G:xs.length<cC)(g:α→Int→Option Int)(f:Int×Int→Option ((Int×Int)⊕(Int⊕Int)))
  (F:∀ x∈xs,∀ a:Int,0≤a→a≤1048576→g x a=some (fM (n x) a))
  (u:∀ a i,f (a,i)=if (decide (i<(xs.length:Int)))=true then (if (0≤i∧i<(xs.length:Int)) then (g (ix xs i) a).bind fun (r:Int)=>if (decide (r<(0:Int)))=true then (some (.inr (.inl (-1:Int)))) else (some (.inl (r,(aK (i+(1:Int)))))) else none) else (some (.inr (.inr a))))
  (a:Int) (q:0≤a) (h1:a≤1048576) :
  ((aI f (a,0)).bind fun e=>match e with | .inl e=>some e | .inr e=>some e)=some (fM ((xs.map n).sum) a):=by
 rw [fJ (S:=Int) xs (fun _ s=>0≤s∧s≤1048576) f (fun s i=>(s,i)) (fun s _ x=>if fM (n x) s<0 then .inr (.inl (-1)) else .inl (fM (n x) s)) (fun s=>.inr s) ?_ ?_ ?_ a ⟨q,h1⟩]
 ·rw [aM]
  clear u G
  generalize 0=k
  induction xs generalizing a k with
  | nil=>show some a=some (fM 0 a); unfold fM; rw [if_neg (by omega)]; congr 1; simp
  | cons x xs ih =>
   unfold lE
   rw [List.map_cons,List.sum_cons,jN q]
   by_cases h:fM (n x) a<0
   ·simp only [h,if_true]
   ·obtain ⟨E,J,_⟩:=iI q h
    simp only [h,if_false]
    exact ih (fun y I=>F y (by simp [I])) _ E (by omega) _
 ·rintro s k ⟨m,D⟩ B
  rw [u,if_pos (by simpa using B),if_pos (by omega),F _ (aN B) s m D,aM,bT (by omega)]
  by_cases h:fM (n (ix xs (k:Int))) s<0
  ·simp [h]
  ·simp [h]
 ·rintro s k s' ⟨m,D⟩ B j
  split at j
  ·cases j
  ·rename_i h
   obtain ⟨E,J,_⟩:=iI m h
   injection j with j
   subst j
   exact ⟨E,by omega⟩
 ·rintro s ⟨m,D⟩
  rw [u,if_neg (by simp)]
theorem pk {α:Type}[Inhabited α]{xs:List α}{n:α→Nat}{a:Int}{x:Int→Option Int}(m:xs.length≤uc)(j:0≤a)(h1:a≤1048576)(q:¬ fM xs.length a<0→x (fM xs.length a)=some (fM ((xs.map n).sum) (fM xs.length a))) :
  (if (decide ((aK (a - (xs.length:Int)))<(0:Int)))=true then (some (-1:Int)) else x (aK (a - (xs.length:Int))))=some (fM (iV n xs) a):=by
 have i:=m
 unfold uc at i
 unfold iV
 rw [jN j]
 have e:aK (a - (xs.length:Int))=a - xs.length:=bH (by omega) (by omega)
 rw [e]
 by_cases h:a<(xs.length:Int)
 ·rw [if_pos (by simp; omega),if_pos (by unfold fM; rw [if_pos h]; omega)]
 ·have g:fM xs.length a=a - xs.length:=by unfold fM; rw [if_neg h]
  rw [if_neg (by simp; omega),if_neg (by rw [g]; omega)]
  have:=q (by rw [g]; omega)
  rw [g] at this ⊢
  exact this
theorem iJ {k:Nat}{n:Nat}(h:k<n):(0:Int)≤(k:Int)∧(k:Int)<(n:Int):=⟨by omega,by omega⟩
theorem pl {k:Nat}{n:Nat}(h:k<n):(decide ((k:Int)<(n:Int)))=true:=by simpa using h
theorem jO {n:Nat}:(decide ((n:Int)<(n:Int)))=false:=by simp
theorem jP (xs ys:List Int)(h:xs.length=ys.length):((List.range xs.length).all fun k=>ix xs (k:Int)==ix ys (k:Int))=decide (xs=ys):=by
 by_cases e:xs=ys
 ·subst e; simp
 ·simp only [e,decide_false]
  rw [List.all_eq_false]
  refine Classical.byContradiction fun g=>e ?_
  refine List.ext_getElem h fun k h1 h2=>?_
  refine Classical.byContradiction fun a=>g ⟨k,by simpa using h1,?_⟩
  rw [bC h1,bC h2]
  simpa using a
theorem pm (xs ys:List Int)(h:xs.length<cC):Z0e xs ys=some (decide (xs=ys)):=by
 unfold Z0e
 by_cases hl:xs.length=ys.length
 ·rw [if_neg (by simp [hl])]
  rw [hD xs.length (fun s:Int=>Z0e_L1 xs ys s) (fun i=>i) (fun k=>ix xs (k:Int)==ix ys (k:Int)) (.inl false) (.inr ()) (fun k a=>by
   unfold Z0e_L1
   rw [if_pos (pl a),if_pos (iJ a),if_pos (iJ (hl▸a)),bT (by omega)]
   by_cases hq:ix xs (k:Int)=ix ys (k:Int)
   ·simp [hq]
   ·simp [hq]) (by unfold Z0e_L1; simp only [jO,Bool.false_eq_true,if_false])]
  rw [jP xs ys hl,aM]
  by_cases e:xs=ys<;>simp [e,Z0e_J1]
 ·rw [if_pos (by simp; omega)]
  have:xs≠ys:=fun e=>hl (by rw [e])
  simp [this]
theorem kx (xs ys:List Int):Z03 xs ys=Z0e xs ys:=rfl
theorem vk {α:Type}[Inhabited α](x:Option α):bR true x=x:=rfl
def Rg (g:List Bool)(n:Nat)(gl:List Int):Prop:=g.length=n∧∀ j:Nat,j<n→ix g (j:Int)=decide ((j:Int)∈gl)
theorem Rg.set {g:List Bool}{n:Nat}{gl:List Int}(h:Rg g n gl){b:Int}(q:0≤b)(h1:b<(n:Int)):Rg (g.set b.toNat true) n (gl++[b]):=by
 obtain ⟨m,r⟩:=h
 refine ⟨by simpa using m,fun j i=>?_⟩
 obtain ⟨c,rfl⟩:=Int.eq_ofNat_of_zero_le q
 have a:j<(g.set (c:Int).toNat true).length:=by simpa [m] using i
 rw [bC a,List.getElem_set]
 by_cases e:(c:Int).toNat=j
 ·rw [if_pos e]; have:c=j:=by omega
  subst this; simp
 ·rw [if_neg e]
  have h2:=r j i
  rw [bC (by omega)] at h2
  rw [h2]
  have:¬ (j:Int)=(c:Int):=by omega
  simp [this]
theorem ky {α T:Type}[Inhabited α](xs:List α)(z:α)(f:T→Option (T⊕List α))(mk:List α→Int→T)
  (D:∀ (ys:List α) (k:Nat),ys.length=xs.length→k<xs.length→f (mk ys (k:Int))=some (.inl (mk (ys.set k (ix xs (k:Int))) ((k+1:Nat):Int))))
  (i:∀ ys:List α,ys.length=xs.length→f (mk ys (xs.length:Int))=some (.inr ys)):aI f (mk (List.replicate (xs.length:Int).toNat z) 0)=some xs:=by
 rw [Int.toNat_natCast]
 rw [fJ (S:=List α) xs (fun _ s=>s.length=xs.length) f mk (fun s k x=>.inl (s.set k x)) (fun s=>s) (fun s k q a=>D s k q a) (fun s k s' q a h=>by injection h with h; subst h; simpa using q) i _ (by simp)]
 congr 1
 have B:∀ (m k:Nat) (ys:List α),k+m=xs.length→ys.length=xs.length→(∀ j,j<k→ys[j]?=xs[j]?)→lE (R:=List α) (fun s k x=>.inl (s.set k x)) (fun s=>s) (xs.drop k) k ys=xs:=by
  intro m
  induction m with
  | zero =>
   intro k ys a i r
   have a:k=xs.length:=by omega
   subst a
   rw [List.drop_length]
   show ys=xs
   refine List.ext_getElem? fun j=>?_
   by_cases u:j<xs.length
   ·exact r j u
   ·rw [List.getElem?_eq_none (by omega),List.getElem?_eq_none (by omega)]
  | succ m ih =>
   intro k ys a i r
   have g:k<xs.length:=by omega
   rw [List.drop_eq_getElem_cons g]
   unfold lE
   refine ih (k+1) _ (by omega) (by simpa using i) (fun j u=>?_)
   rw [List.getElem?_set]
   by_cases e:k=j
   ·subst e; rw [if_pos rfl,if_pos (by omega)]; exact (List.getElem?_eq_getElem g).symm
   ·rw [if_neg e]; exact r j (by omega)
 simpa using B xs.length 0 (List.replicate xs.length z) (by omega) (by simp) (fun j u=>by omega)
theorem u4 {α:Type}{n:Nat}{z:α}{k:Nat}(h:k<n):(0:Int)≤(k:Int)∧(k:Int)<((List.replicate (n:Int).toNat z).length:Int):=by
 rw [List.length_replicate,Int.toNat_natCast]; omega
theorem pn (xs:List Int)(h:xs.length≤1048576):Z03 xs xs=some true:=by
 rw [kx,pm _ _ (by unfold cC; omega)]; simp
theorem m0 {α:Type}[Inhabited α](xs:List α)(f:Int→Option (Int⊕(Bool⊕Unit)))(j:xs.length≤1048576)(e:α→α→Option Bool)(h:∀ x∈xs,e x x=some true)
  (g:∀ i,f i=if (decide (i<(xs.length:Int)))=true then (if (0≤i∧i<(xs.length:Int)) then if (0≤i∧i<(xs.length:Int)) then (e (ix xs i) (ix xs i)).bind fun (r:Bool)=>if (!r)=true then (some (.inr (.inl false))) else (some (.inl (aK (i+(1:Int))))) else none else none) else (some (.inr (.inr ())))) :
  aI f 0=some (.inr ()):=by
 rw [dC xs f (fun i=>i) (fun _=>true) (.inl false) (.inr ()) (fun k a=>by
  rw [g,if_pos (pl a),if_pos (iJ a),if_pos (iJ a),h _ (aN a),aM,bT (by unfold cC; omega)]; rfl) (by rw [g]; simp only [jO,Bool.false_eq_true,if_false])]
 simp
theorem gA (x:Int):(x != x)=false:=by simp
def BB:Nat:=4611686018427387904
theorem iK {α:Type}[Inhabited α]{ys:List α}{k:Nat}{v:α}(h:k<ys.length):ix (ys.set k v) (k:Int)=v:=by
 rw [bC (by simpa using h)]; simp
theorem j9 {α:Type}[Inhabited α]{ys:List α}{k j:Nat}{v:α}(h:k≠j):ix (ys.set k v) (j:Int)=ix ys (j:Int):=by
 simp [ix,List.getD_eq_getElem?_getD,List.getElem?_set,h]
def fZ {α:Type}(n:α→Nat)(xs:List α):Nat:=(xs.map n).sum
theorem iL {α:Type}(n:α→Nat)(x:α)(t:List α):fZ n (x::t)=n x+fZ n t:=by simp [fZ]
theorem nS {α:Type}(n:α→Nat){xs:List α}{k:Nat}(h:k<xs.length):fZ n (xs.drop k)=n xs[k]+fZ n (xs.drop (k+1)):=by
 rw [List.drop_eq_getElem_cons h,iL]
theorem gp {α T U:Type}[Inhabited α](xs:List α)(n:α→Nat)(g:α→Nat→α)(f:T→Option (T⊕(Int×List α)))(mk:List α→Int→Int→T)
  (O:∀ (ys:List α) (k i:Nat),i<xs.length→ys.length=xs.length→ix ys (i:Int)=ix xs (i:Int)→k+n (ix xs (i:Int))≤BB→f (mk ys (k:Int) (i:Int))=some (.inl (mk (ys.set i (g (ix xs (i:Int)) k)) ((k+n (ix xs (i:Int)):Nat):Int) ((i+1:Nat):Int))))
  (M:∀ ys k,f (mk ys k (xs.length:Int))=some (.inr (k,ys))) (k:Nat) (Y:k+fZ n xs≤BB) :
  ∃ ys,aI f (mk xs (k:Int) 0)=some (((k+fZ n xs:Nat):Int),ys)∧ys.length=xs.length ∧
   ∀ (e:U→Option (U⊕(Int⊕Int))) (a:Int→Int→U),(∀ (k i:Nat),i<xs.length→k+n (ix xs (i:Int))≤BB→ix ys (i:Int)=g (ix xs (i:Int)) k→e (a (k:Int) (i:Int))=some (.inl (a ((k+n (ix xs (i:Int)):Nat):Int) ((i+1:Nat):Int)))) →
    (∀ k,e (a k (xs.length:Int))=some (.inr (.inr k)))→aI e (a (k:Int) 0)=some (.inr ((k+fZ n xs:Nat):Int)):=by
 have D:∀ (m i k:Nat) (ys:List α),i+m=xs.length→ys.length=xs.length→(∀ j,i≤j→j<xs.length→ix ys (j:Int)=ix xs (j:Int))→k+fZ n (xs.drop i)≤BB →
   ∃ zs,aI f (mk ys (k:Int) (i:Int))=some (((k+fZ n (xs.drop i):Nat):Int),zs)∧zs.length=xs.length∧(∀ j,j<i→ix zs (j:Int)=ix ys (j:Int)) ∧
    ∀ (e:U→Option (U⊕(Int⊕Int))) (a:Int→Int→U),(∀ (k j:Nat),i≤j→j<xs.length→k+n (ix xs (j:Int))≤BB→ix zs (j:Int)=g (ix xs (j:Int)) k→e (a (k:Int) (j:Int))=some (.inl (a ((k+n (ix xs (j:Int)):Nat):Int) ((j+1:Nat):Int)))) →
     (∀ k,e (a k (xs.length:Int))=some (.inr (.inr k)))→aI e (a (k:Int) (i:Int))=some (.inr ((k+fZ n (xs.drop i):Nat):Int)):=by
  intro m
  induction m with
  | zero =>
   intro i k ys B r _ _
   have B:i=xs.length:=by omega
   subst B
   rw [List.drop_length]
   exact ⟨ys,cH (M ys k),r,fun j _=>rfl,fun e a _ h2=>cH (h2 k)⟩
  | succ m ih =>
   intro i k ys B r E hb
   have h:i<xs.length:=by omega
   have J:=nS n h
   rw [← bC h] at J
   have u:=O ys k i h r (E i (Nat.le_refl _) h) (by omega)
   obtain ⟨zs,I,z2,z3,z4⟩:=ih (i+1) (k+n (ix xs (i:Int))) (ys.set i (g (ix xs (i:Int)) k)) (by omega) (by simpa using r) (fun j h1 h2=>by
    rw [j9 (by omega)]; exact E j (by omega) h2) (by omega)
   have q:k+n (ix xs (i:Int))+fZ n (xs.drop (i+1))=k+fZ n (xs.drop i):=by omega
   rw [q] at I z4
   refine ⟨zs,by rw [cZ u]; exact I,z2,fun j hj=>?_,fun e a h1 h2=>?_⟩
   ·rw [z3 j (by omega),j9 (by omega)]
   ·have Z:ix zs (i:Int)=g (ix xs (i:Int)) k:=by rw [z3 i (by omega),iK (by omega)]
    rw [cZ (h1 k i (Nat.le_refl _) h (by omega) Z)]
    exact z4 e a (fun k j h3=>h1 k j (by omega)) h2
 obtain ⟨ys,F,y2,_,G⟩:=D xs.length 0 k xs (by omega) rfl (fun _ _ _=>rfl) (by simpa using Y)
 rw [List.drop_zero] at F G
 exact ⟨ys,F,y2,fun e a h1 h2=>G e a (fun k j _=>h1 k j) h2⟩
theorem wn {k:Nat}(h:k+1≤BB):aK ((k:Int)+1)=((k+1:Nat):Int):=by
 unfold BB at h; rw [bH (by omega) (by omega)]; omega
theorem m3 {α:Type}(c:Nat)(xs:List α):fZ (fun _=>c) xs=c*xs.length:=by
 induction xs with
 | nil=>simp [fZ]
 | cons x t ih=>rw [iL,ih,List.length_cons,Nat.mul_succ]; omega
noncomputable def s6 (xs:List Int)(k:Nat):List Int:=((Zh xs (k:Int)).getD default).2
theorem wi {n k:Nat}(a:n≤1048576)(h:k<n):aK ((k:Int)+1)=((k+1:Nat):Int):=bT (by unfold cC; omega)
theorem fL (xs:List Int)(k:Nat)(j:xs.length≤1048576)(h:k+xs.length≤BB):Zh xs (k:Int)=some (((k+xs.length:Nat):Int),s6 xs k)∧Zl (s6 xs k) (k:Int)=some ((k+xs.length:Nat):Int):=by
 obtain ⟨ys,m,B,q⟩:=gp (U:=Int×Int) xs (fun _=>1) (fun _ k=>(k:Int)) (fun s:(List Int)×Int×Int=>Zh_L1 xs s.1 s.2.1 s.2.2) (fun ys k i=>(ys,k,i)) (fun ys k i a E D g=>by
  show Zh_L1 xs ys (k:Int) (i:Int)=_
  unfold Zh_L1
  rw [if_pos (pl a),if_pos (iJ a),wi j a,wn g,Int.toNat_natCast]) (fun ys k=>by
  show Zh_L1 xs ys k (xs.length:Int)=_
  unfold Zh_L1; simp only [jO,Bool.false_eq_true,if_false]) k (by rw [m3]; omega)
 rw [m3,Nat.one_mul] at m q
 have e:Zh xs (k:Int)=some (((k+xs.length:Nat):Int),ys):=by
  unfold Zh; rw [m,aM]; rfl
 have r:s6 xs k=ys:=by unfold s6; rw [e]; rfl
 rw [r]
 refine ⟨e,?_⟩
 unfold Zl
 rw [q (fun s:Int×Int=>Zl_L1 ys s.1 s.2) (fun k i=>(k,i)) (fun k i a g u=>by
  show Zl_L1 ys (k:Int) (i:Int)=_
  unfold Zl_L1
  rw [if_pos (pl (by omega)),if_pos (iJ (by omega)),u,gA,wi j a,wn g]; rfl) (fun k=>by
  show Zl_L1 ys k (xs.length:Int)=_
  rw [← B]
  unfold Zl_L1; simp only [jO,Bool.false_eq_true,if_false])]
 rfl
theorem rM {α:Type}(n:α→Nat)(M:Nat)(xs:List α)(h:∀ x∈xs,n x≤M):fZ n xs≤xs.length*M:=by
 induction xs with
 | nil=>simp [fZ]
 | cons x t ih =>
  rw [iL,List.length_cons,Nat.succ_mul]
  have:=h x (by simp)
  have:=ih (fun y a=>h y (by simp [a]))
  omega
theorem ld {α:Type}(n:α→Nat)(M:Nat)(xs:List α)(h:∀ x∈xs,n x≤M)(a:xs.length≤1048576):fZ n xs≤1048576*M:=Nat.le_trans (rM n M xs h) (Nat.mul_le_mul_right _ a)
theorem nU {α:Type}(n:α→Nat)(xs:List α):xs.length≤iV n xs:=by unfold iV; omega
theorem nV {α:Type}(n:α→Nat){xs:List α}{x:α}(h:x∈xs):n x≤iV n xs:=by
 have:n x≤(xs.map n).sum:=by
  induction xs with
  | nil=>cases h
  | cons y t ih =>
   rcases List.mem_cons.1 h with rfl | h
   ·simp
   ·have:=ih h; simp; omega
 unfold iV; omega
theorem rN {a:Nat}{e:Int}(h:fM a e<0)(g:0≤e):fM a e = -1:=by
 unfold fM at *
 split at h
 ·rw [if_pos (by assumption)]
 ·omega
def po (x:aD):Prop:=x.length≤maxLen
def m4 (xs:(List Int)):Prop:=xs.length≤maxLen
def iM (xs:(List Int)):Prop:=xs.length≤1048576
theorem ja {xs:(List Int)}(h:xs.length≤1048576):iM xs:=h
theorem iN {xs:(List Int)}{a:Int}(g:m4 xs)(e:0≤a)(h1:a≤1048576):Z0n xs a=some (fM xs.length a):=pi (Nat.le_trans g (by decide)) e h1
theorem m5 (xs:(List Int))(h:iM xs):Zn xs=some xs:=by
 unfold Zn
 rw [if_pos (by have:xs.length≤1048576:=h; omega),ky xs 0 (fun s:(List Int)×Int=>Zn_L1 xs s.1 s.2) (fun s i=>(s,i)) (fun ys k g a=>by
  have e:xs.length≤1048576:=h
  show Zn_L1 xs ys (k:Int)=_
  unfold Zn_L1
  rw [if_pos (pl a),if_pos (iJ a),if_pos (u4 a),bT (by unfold cC; omega)]; rfl) (fun ys _=>by
  show Zn_L1 xs ys (xs.length:Int)=_
  unfold Zn_L1; simp only [jO,Bool.false_eq_true,if_false])]
 rfl
theorem m6 (xs:(List Int))(h:iM xs):Z03 xs xs=some true:=pn xs h
structure Cap72 (x:Tensor):Prop where
 Dims:m4 x.Dims
 Data:m4 x.Data
structure SmTensor (x:Tensor):Prop where
 Dims:iM x.Dims
 Data:iM x.Data
def eW (x:Tensor):Nat:=x.Dims.length+x.Data.length
theorem kz {x:Tensor}(h:eW x≤1048576):SmTensor x:=by
 unfold eW at h
 exact ⟨ja (by omega),ja (by omega)⟩
theorem kA {x:Tensor}{a:Int}(j:Cap72 x)(e:0≤a)(h1:a≤1048576):Z0o x a=some (fM (eW x) a):=by
 obtain ⟨h,i⟩:=j
 unfold Z0o eW
 rw [jN e]
 rw [iN h e (by omega),aM]
 by_cases h2:fM (x.Dims.length) a<0
 ·simp [h2]
 ·obtain ⟨g,r,m⟩:=iI e h2
  rw [if_neg (by simpa using h2),if_neg h2]
  rw [iN i g (by omega),aM]
  by_cases h3:fM (x.Data.length) (fM (x.Dims.length) a)<0
  ·rw [if_pos (by simpa using h3),rN h3 g]
  ·obtain ⟨u,B,q⟩:=iI g h3
   rw [if_neg (by simpa using h3)]
theorem mt (x:Tensor)(h:SmTensor x):Z0u x=some x:=by
 unfold Z0u
 rw [m5 _ h.Dims,aM,m5 _ h.Data,aM]
theorem mu (x:Tensor)(h:SmTensor x):Z0m x x=some true:=by
 unfold Z0m
 rw [m6 _ h.Dims,aM,m6 _ h.Data,aM]
 simp
def m7 (xs:(List Tensor)):Prop:=xs.length≤maxLen∧∀ x∈xs,Cap72 x
def eX (xs:(List Tensor)):Prop:=xs.length≤1048576∧∀ x∈xs,SmTensor x
theorem jQ {xs:(List Tensor)}(h:iV eW xs≤1048576):eX xs:=⟨Nat.le_trans (nU _ _) h,fun x a=>kz (Nat.le_trans (nV _ a) h)⟩
theorem jR {xs:(List Tensor)}{a:Int}(i:m7 xs)(g:0≤a)(h1:a≤1048576):Z07 xs a=some (fM (iV eW xs) a):=by
 unfold Z07
 refine pk (x:=fun l=>(aI (fun s:Int×Int=>Z07_L1 xs s.1 s.2) (l,(0:Int))).bind fun e=>match e with | .inl e=>some e | .inr e=>Z07_J1 e) (Nat.le_trans i.1 (by decide)) g h1 (fun h=>?_)
 obtain ⟨m,q,r⟩:=iI g h
 exact pj xs eW (Nat.lt_of_le_of_lt (show xs.length≤1048576 by unfold fM at h; split at h<;>omega) (by decide)) Z0o _ (fun x j a=>kA (i.2 x j)) (fun _ _=>rfl) _ m (by omega)
theorem lg (xs:(List Tensor))(h:eX xs):Zf xs=some xs:=by
 unfold Zf
 rw [if_pos (by have:xs.length≤1048576:=h.1; omega),ky xs zT38.z (fun s:(List Tensor)×Int=>Zf_L1 xs s.1 s.2) (fun s i=>(s,i)) (fun ys k g a=>by
  have e:xs.length≤1048576:=h.1
  show Zf_L1 xs ys (k:Int)=_
  unfold Zf_L1
  rw [if_pos (pl a),if_pos (iJ a),mt _ (h.2 _ (aN a)),aM,if_pos (u4 a),bT (by unfold cC; omega)]; rfl) (fun ys _=>by
  show Zf_L1 xs ys (xs.length:Int)=_
  unfold Zf_L1; simp only [jO,Bool.false_eq_true,if_false])]
 rfl
theorem iO (xs:(List Tensor))(h:eX xs):Z00 xs xs=some true:=by
 unfold Z00
 rw [gA,m0 xs (fun s:Int=>Z00_L1 xs xs s) h.1 Z0m (fun x a=>mu x (h.2 x a)) (fun _=>rfl)]; rfl
def bK (x:Tensor):Nat:=x.Dims.length+x.Data.length
noncomputable def ge (x:Tensor)(k:Nat):Tensor:=⟨s6 x.Dims (k),s6 x.Data (k+x.Dims.length)⟩
noncomputable def eL (xs:(List Tensor))(k:Nat):(List Tensor):=((Z9 xs (k:Int)).getD default).2
theorem gW (xs:(List Tensor))(k:Nat)(h:eX xs)(r:k+fZ bK xs≤BB):Z9 xs (k:Int)=some (((k+fZ bK xs:Nat):Int),eL xs k):=by
 obtain ⟨ys,B,E,F⟩:=gp (U:=Int×Int) xs bK ge (fun s:(List Tensor)×Int×Int=>Z9_L1 xs s.1 s.2.1 s.2.2) (fun ys k i=>(ys,k,i)) (fun ys k i j D m u=>by
  show Z9_L1 xs ys (k:Int) (i:Int)=_
  have g:=h.2 _ (aN j)
  have a:i<ys.length:=by omega
  unfold bK at u
  unfold Z9_L1 ge bK
  generalize ix xs (i:Int)=x at *
  rw [if_pos (pl j),if_pos (iJ j),wi h.1 j,m]
  (try simp only [gi,Int.toNat_natCast,iK a,List.set_set,m])
  rw [(fL _ _ g.Dims (by omega)).1,aM]
  (try simp only [gi,Int.toNat_natCast,iK a,List.set_set,m])
  rw [(fL _ _ g.Data (by omega)).1,aM]
  (try simp only [gi,Int.toNat_natCast,iK a,List.set_set,m])
  rw [show k+x.Dims.length+x.Data.length=k+(x.Dims.length+x.Data.length) by omega]) (fun ys k=>by
  show Z9_L1 xs ys k (xs.length:Int)=_
  unfold Z9_L1; simp only [jO,Bool.false_eq_true,if_false]) k r
 have e:Z9 xs (k:Int)=some (((k+fZ bK xs:Nat):Int),ys):=by
  unfold Z9; rw [B,aM]; rfl
 have q:eL xs k=ys:=by unfold eL; rw [e]; rfl
 rw [q,e]
theorem rO (xs:List Tensor)(k:Nat)(h:eX xs)(B:k+fZ bK xs≤BB):Zu (eL xs k) (k:Int)=some ((k+fZ bK xs:Nat):Int):=by
 obtain ⟨ys,D,G,E⟩:=gp (U:=Int×Int) xs bK ge (fun s:(List Tensor)×Int×Int=>Z9_L1 xs s.1 s.2.1 s.2.2) (fun ys k i=>(ys,k,i)) (fun ys k i g F m q=>by
  show Z9_L1 xs ys (k:Int) (i:Int)=_
  have a:=h.2 _ (aN g)
  have j:i<ys.length:=by omega
  unfold bK at q
  unfold Z9_L1 ge bK
  generalize ix xs (i:Int)=x at *
  rw [if_pos (pl g),if_pos (iJ g),wi h.1 g,m]
  (try simp only [gi,Int.toNat_natCast,iK j,List.set_set,m])
  rw [(fL _ _ a.Dims (by omega)).1,aM]
  (try simp only [gi,Int.toNat_natCast,iK j,List.set_set,m])
  rw [(fL _ _ a.Data (by omega)).1,aM]
  (try simp only [gi,Int.toNat_natCast,iK j,List.set_set,m])
  rw [show k+x.Dims.length+x.Data.length=k+(x.Dims.length+x.Data.length) by omega]) (fun ys k=>by
  show Z9_L1 xs ys k (xs.length:Int)=_
  unfold Z9_L1; simp only [jO,Bool.false_eq_true,if_false]) k B
 have e:Z9 xs (k:Int)=some (((k+fZ bK xs:Nat):Int),ys):=by
  unfold Z9; rw [D,aM]; rfl
 have u:eL xs k=ys:=by unfold eL; rw [e]; rfl
 rw [u]
 unfold Zu
 rw [E (fun s:Int×Int=>Zu_L1 ys s.1 s.2) (fun k i=>(k,i)) (fun k i g q r=>by
  have a:=h.2 _ (aN g)
  unfold bK at q ⊢
  unfold ge at r
  show Zu_L1 ys (k:Int) (i:Int)=_
  unfold Zu_L1
  rw [if_pos (by simp; omega),if_pos (by omega),r]
  dsimp only
  rw [(fL _ _ a.Dims (by omega)).2,aM,if_neg (by simp; omega),(fL _ _ a.Data (by omega)).2,aM,if_neg (by simp; omega),wi h.1 g,Nat.add_assoc]) (fun k=>by
  show Zu_L1 ys k (xs.length:Int)=_
  unfold Zu_L1
  rw [if_neg (by simp; omega)])]
 rfl
def SmSS (x:List (List Tensor)):Prop:=x.length≤64∧∀ y∈x,y.length≤6∧∀ t∈y,t.Dims.length≤6∧t.Data.length≤4096
theorem SmSS.s {x:List (List Tensor)}(h:SmSS x){y:List Tensor}(e:y∈x):eX y:=by
 obtain ⟨h1,h2⟩:=h.2 y e
 exact ⟨by omega,fun t a=>⟨by have:=h2 t a; show t.Dims.length≤_; omega,by have:=h2 t a; show t.Data.length≤_; omega⟩⟩
theorem SmSS.c {x:List (List Tensor)}(h:SmSS x){y:List Tensor}(e:y∈x):fZ bK y≤1048576*4102:=by
 obtain ⟨h1,h2⟩:=h.2 y e
 exact ld bK 4102 y (fun t a=>by have:=h2 t a; unfold bK; omega) (by omega)
theorem pW {x:List (List Tensor)}(h:SmSS x):Zt x x=some true:=by
 unfold Zt
 rw [gA,m0 x (fun s:Int=>Zt_L1 x x s) (Nat.le_trans h.1 (by decide)) Z00 (fun y a=>iO y (h.s a)) (fun _=>rfl)]; rfl
theorem pq {xs:List (List Tensor)}(h:SmSS xs)(k:Nat)(m:k+fZ (fZ bK) xs≤BB):∃ ys,Zv xs (k:Int)=some (((k+fZ (fZ bK) xs:Nat):Int),ys)∧Zm ys (k:Int)=some ((k+fZ (fZ bK) xs:Nat):Int):=by
 have j:xs.length≤1048576:=Nat.le_trans h.1 (by decide)
 obtain ⟨ys,u,E,B⟩:=gp (U:=Int×Int) xs (fZ bK) eL (fun s:(List (List Tensor))×Int×Int=>Zv_L1 xs s.1 s.2.1 s.2.2) (fun ys k i=>(ys,k,i)) (fun ys k i e D r g=>by
  show Zv_L1 xs ys (k:Int) (i:Int)=_
  have a:=h.s (aN e)
  unfold Zv_L1
  rw [if_pos (pl e),if_pos (iJ e),wi j e,r,gW _ _ a g,aM,Int.toNat_natCast]) (fun ys k=>by
  show Zv_L1 xs ys k (xs.length:Int)=_
  unfold Zv_L1; simp only [jO,Bool.false_eq_true,if_false]) k m
 refine ⟨ys,?_,?_⟩
 ·unfold Zv; rw [u,aM]; rfl
 ·unfold Zm
  rw [B (fun s:Int×Int=>Zm_L1 ys s.1 s.2) (fun k i=>(k,i)) (fun k i e g q=>by
   have a:=h.s (aN e)
   show Zm_L1 ys (k:Int) (i:Int)=_
   unfold Zm_L1
   rw [if_pos (by simp; omega),if_pos (by omega),q,rO _ _ a g,aM,if_neg (by simp; omega),wi j e]) (fun k=>by
   show Zm_L1 ys k (xs.length:Int)=_
   unfold Zm_L1
   rw [if_neg (by simp; omega)])]
  rfl
theorem iW (e g:aD)(a3:Int)(a4:List Tensor)(h1:po e)(h2:po g)(B:m7 a4):Z16 e g a3 a4=some true:=by
 unfold Z16
 by_cases c1:(e.length:Int)>1048576
 ·rw [if_pos (by simpa using c1)]
 ·rw [if_neg (by simpa using c1)]
  by_cases c2:(g.length:Int)>1048576
  ·rw [if_pos (by simpa using c2)]
  ·rw [if_neg (by simpa using c2),jR B (by omega) (by omega),aM]
   by_cases h:fM (iV eW a4) 1048576<0
   ·rw [if_pos (by simpa using h)]
   ·have hw:iV eW a4≤1048576:=by unfold fM at h; split at h<;>omega
    have a:=jQ hw
    have F:∀ t∈a4,t.Dims.length<cC∧t.Data.length<cC:=fun t i=>by
     have z:=a.2 t i
     have O:t.Dims.length≤1048576:=z.Dims
     have T:t.Data.length≤1048576:=z.Data
     exact ⟨by unfold cC; omega,by unfold cC; omega⟩
    obtain ⟨x,U,I,j,k3,J⟩:=lc (letter:=g) (n:=a3) (f:=e) (by omega) a.1 F
    have hS:SmSS x:=⟨k3,J⟩
    have E:fZ (fZ bK) x≤1048576*(1048576*4102):=ld (fZ bK) (1048576*4102) x (fun y G=>hS.c G) (by omega)
    have D:fZ bK a4≤1048576*2097152:=ld bK 2097152 a4 (fun t i=>by
     have z:=a.2 t i
     have O:t.Dims.length≤1048576:=z.Dims
     have T:t.Data.length≤1048576:=z.Data
     unfold bK; omega) a.1
    obtain ⟨ys,q,r⟩:=pq hS 1 (by unfold BB; omega)
    have m:=gW a4 1 a (by unfold BB; omega)
    have u:((1:Nat):Int)=1:=rfl
    rw [u] at m q r
    rw [if_neg (by simpa using h),lg a4 a,aM,I,aM,aM,j,aM,pW hS,aM,if_neg (by simp),aM,iO a4 a,aM,if_neg (by simp),m,aM]
    have M:∀ n:Nat,decide (((1+n:Nat):Int)<0)=false:=fun n=>by simp; omega
    simp only [M,Bool.not_false,vk,aM,Bool.not_true,Bool.false_or,Bool.or_false,beq_self_eq_true]
    rw [if_neg (by simp),q,aM]
    dsimp only
    rw [r,aM,if_neg (by simp; omega),if_neg (by simp),j,aM,pW hS,aM,if_neg (by simp),aM,if_neg (by simp; omega),if_neg (by simp)]
end Go.Proofs.YtmpnollfdpdipaaGreatDoor
