import Derived.Test.YtmpnollfdpdipaaGreatPg6
set_option linter.unusedVariables false
set_option linter.unusedSimpArgs false
namespace Go.Pg
section
variable {X:Cx}{V:List HP}{σ:Env}{Q:Exit→Env→World→Prop}{ops:Array Oper}{rest:List Oper}
variable {d:Option Nat}{ty:TypeId}{pos:String}{af:Array Edge}{gd:Option (Nat×Bool)}
variable {α β:Type}
def SetL (K:Kind α)(fo:Nat)(v:Value)(f:α→α):Prop:=fo<K.sz∧∀ I h x cs,K.own I h x cs→K.own I h (f x) (cs.set fo v)
theorem run_store_blk {P:Program}{w:World}{g k:Nat}{cs:List Value}{e:Nat}{fr:Nat×Nat}{v:Value}(hb:w.heap[g]?=some (.cells cs.toArray e fr))(hk:k<cs.length)(hf:fr=(0,0)∨cs.length≤fr.1)(hv:v.oneCell'=true) :
  (store ⟨g,k,none⟩ v).run P w=.ok () (w.setCell ⟨g,k,none⟩ v):=by
 rw [run_store P w _ v _ hv]
 have h1:w.cell? ⟨g,k,none⟩=some cs[k]:=by simp [World.cell?,hb,hk]
 have h2:w.frozen? ⟨g,k,none⟩=false:=by
  simp only [World.frozen?,hb]
  rcases hf with rfl | hf
  ·simp
  ·obtain ⟨lo,hi⟩:=fr
   simp only at hf
   simp; omega
 simp [h1,h2]
def ZeroK (P:Program)(K:Kind α)(e:TypeId)(z:α):Prop:=∃ cs,zcB P e=some cs∧cs.length=K.sz∧∀ I,K.own I Hp.none z cs
theorem ownL_rep {K:Kind α}{I:Hp}{z:α}{cs:List Value}(h:K.own I Hp.none z cs)(m:Nat):ownL K I Hp.none (List.replicate m z) (List.replicate m cs).flatten:=by
 induction m with
 | zero=>exact ⟨rfl,rfl⟩
 | succ m ih=>exact ⟨Hp.none,Hp.none,cs,(List.replicate m cs).flatten,Join.none _,by simp [List.replicate_succ],h,ih⟩
theorem made_flat (z:Array Value)(hz:0<z.size)(m:Nat):(madeCells z (m*z.size)).toList=(List.replicate m z.toList).flatten:=by
 induction m with
 | zero=>simp [madeCells]
 | succ m ih =>
  have h1:(madeCells z ((m+1)*z.size)).toList=(madeCells z (m*z.size)).toList++z.toList:=by
   apply List.ext_getElem?
   intro k
   simp only [madeCells,Array.toList_map,Array.toList_range,List.getElem?_map,List.getElem?_append,List.length_map,List.length_range]
   by_cases hk:k<m*z.size
   ·rw [List.getElem?_range (by rw [Nat.succ_mul]; omega),if_pos hk,List.getElem?_range hk]
   ·rw [if_neg hk]
    by_cases hk2:k<(m+1)*z.size
    ·rw [List.getElem?_range hk2]
     have hk3:k - m*z.size<z.size:=by rw [Nat.succ_mul] at hk2; omega
     have hm:k % z.size=k - m*z.size:=by
      rw [← Nat.mod_eq_of_lt hk3]
      conv=>lhs; rw [show k=(k - m*z.size)+m*z.size by omega]
      rw [Nat.add_mul_mod_self_right]
     simp only [Option.map_some,hm]
     rw [getElem!_pos z _ hk3]
     simp [hk3]
    ·rw [List.getElem?_eq_none (by simp; omega)]
     rw [Nat.succ_mul] at hk2
     rw [List.getElem?_eq_none (by simp; omega)]
     rfl
  rw [h1,ih]
  clear h1 ih
  induction m with
  | zero=>simp
  | succ m ih=>rw [List.replicate_succ,List.flatten_cons,List.append_assoc,ih,← List.flatten_cons,← List.replicate_succ]
theorem l_make {K:Kind α}{t e:TypeId}{x y:Operand}{m:Int}{z:α}{by_:Nat}(hd:dok X.n d=true)(hw:want ops σ ⟨d,.makeSlice t x y,ty,pos,af,gd⟩=true)(ht:slB X.P t=some e)(hs:szB X.P e=some K.sz)(hb:bytesB X.P e=some by_)
  (hz:ZeroK X.P K e z) (hsz:0<K.sz) (hx:ev σ x=.int .i64 m) (hy:ev σ y=.int .i64 m) (h0:0≤m) (h1:m≤140737488355328) (h2:by_*m≤281474976710656)
  (h:∀ a c,TL X ops (ow K e (.slice a (List.replicate m.toNat z).length c) (List.replicate m.toNat z)::V) (updo σ d (.slice a (List.replicate m.toNat z).length c)) rest Q):TL X ops V σ (⟨d,.makeSlice t x y,ty,pos,af,gd⟩::rest) Q:=by
 intro w s
 obtain ⟨cs,hz1,hz2,hz3⟩:=hz
 unfold zcB at hz1
 unfold szB at hs
 unfold bytesB at hb
 cases hi:X.P.info? e with
 | none=>rw [hi] at hs; cases hs
 | some info =>
  rw [hi] at hz1 hs hb
  simp only [Option.map_some,Option.some.injEq,Option.bind_some] at hz1 hs hb
  cases hzz:info.zero with
  | none=>rw [hzz] at hz1; cases hz1
  | some zv =>
   rw [hzz] at hz1
   simp only [Option.map_some,Option.some.injEq] at hz1
   have hr:=run_make (P:=X.P) w t e info zv (slB_eq ht) hi hzz .i64 .i64 m m h0 (Int.le_refl _) (by rw [hb]; exact h2) (by omega)
   refine WL_step hd hw ?_
   have hr':(execOp (ev σ) ⟨d,.makeSlice t x y,ty,pos,af,gd⟩).run X.P w=.ok (.value (.slice (some ⟨w.heap.size,0,none⟩) m.toNat m.toNat)) (w.alloc (.cells (madeCells zv.cells (m.toNat*info.size)) e)):=by
    simp only [execOp,hx,hy,Sem.run_bind,hr,Result.andThen_ok,Sem.run_pure]
   rw [hr']
   have hzs:zv.cells.size=K.sz:=by rw [← hz2,← hz1]; simp
   have hcells:(madeCells zv.cells (m.toNat*info.size)).toList=(List.replicate m.toNat cs).flatten:=by
    rw [hs,← hzs,made_flat _ (by omega),← hz1]
   have hl:(List.replicate m.toNat z).length=m.toNat:=by simp
   have:=h (some ⟨w.heap.size,0,none⟩) m.toNat
   rw [hl] at this
   refine this _ (St.new s (fun a=>a.alloc _) (fun I _=>?_) ?_)
   ·obtain ⟨h',jo⟩:=Join.of_disj (h1:=Hp.one w.heap.size (.cells (madeCells zv.cells (m.toNat*info.size)) e)) (h2:=Hp.none) (fun _=>.inr rfl)
    have he:=jo.symm.eq_of_none
    refine ⟨h',.inr ⟨w.heap.size,m.toNat,[],(List.replicate m.toNat cs).flatten,[],(0,0),Hp.none,by simp,by simp,by simp only [maxLen]; omega,by simp,.inl rfl,?_,ownL_rep (hz3 I) _⟩,?_,?_⟩
    ·have hh:((List.replicate m.toNat cs).flatten).toArray=madeCells zv.cells (m.toNat*info.size):=by rw [← hcells]
     simp only [List.nil_append,List.append_nil,hh]
     exact jo
    ·rw [he]
     intro b o e'
     simp only [Hp.one] at e'
     split at e'
     ·rename_i hb'
      subst hb'
      rw [← Option.some.inj e']
      show (w.heap.push _)[w.heap.size]?=_
      simp
     ·cases e'
    ·rw [he]
     intro b hb'
     simp only [Hp.one] at hb'
     split at hb'
     ·rename_i e'; exact Nat.le_of_eq e'.symm
     ·exact absurd rfl hb'
   ·intro b o e'
    have hlt:=(Array.getElem?_eq_some_iff.1 e').1
    show (w.heap.push _)[b]?=_
    rw [Array.getElem?_push,if_neg (Nat.ne_of_lt hlt)]
    exact e'
end
end Go.Pg
