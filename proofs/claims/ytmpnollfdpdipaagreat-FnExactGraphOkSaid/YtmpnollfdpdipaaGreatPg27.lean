import Derived.Test.YtmpnollfdpdipaaGreatPg26
import Derived.Laws.BytesArg
set_option linter.unusedVariables false
set_option linter.unusedSimpArgs false
namespace Go.Pg
section
variable {X:Cx}{V:List HP}{σ:Env}{Q:Exit→Env→World→Prop}{ops:Array Oper}{rest:List Oper}
variable {d:Option Nat}{ty:TypeId}{pos:String}{af:Array Edge}{gd:Option (Nat×Bool)}
theorem l_makec {α:Type}{K:Kind α}{t e:TypeId}{x y:Operand}{m:Int}{z:α}{by_:Nat}(hd:dok X.n d=true)(hw:want ops σ ⟨d,.makeSlice t x y,ty,pos,af,gd⟩=true)(ht:slB X.P t=some e)(hs:szB X.P e=some K.sz)(hb:bytesB X.P e=some by_)
  (hz:ZeroK X.P K e z) (hsz:0<K.sz) (hx:ev σ x=.int .i64 0) (hy:ev σ y=.int .i64 m) (h0:0≤m) (h1:m≤140737488355328) (h2:by_*m≤281474976710656)
  (h:∀ a c,TL X ops (ow K e (.slice a ([]:List α).length c) []::V) (updo σ d (.slice a ([]:List α).length c)) rest Q):TL X ops V σ (⟨d,.makeSlice t x y,ty,pos,af,gd⟩::rest) Q:=by
 intro w s
 obtain ⟨cs,hz1,hz2,hz3⟩:=hz
 unfold zcB at hz1
 unfold szB at hs
 unfold bytesB at hb
 cases hi:X.P.info? e with
 | none=>rw [hi] at hs; cases hs
 | some info =>
  rw [hi] at hz1 hs hb
  simp only [Option.map_some,Option.some.injEq,Option.bind_some] at hz1 hs hb
  cases hzz:info.zero with
  | none=>rw [hzz] at hz1; cases hz1
  | some zv =>
   rw [hzz] at hz1
   simp only [Option.map_some,Option.some.injEq] at hz1
   have hr:=run_make (P:=X.P) w t e info zv (slB_eq ht) hi hzz .i64 .i64 0 m (Int.le_refl _) h0 (by rw [hb]; exact h2) (by omega)
   refine WL_step hd hw ?_
   have hr':(execOp (ev σ) ⟨d,.makeSlice t x y,ty,pos,af,gd⟩).run X.P w=.ok (.value (.slice (some ⟨w.heap.size,0,none⟩) 0 m.toNat)) (w.alloc (.cells (madeCells zv.cells (m.toNat*info.size)) e)):=by
    simp only [execOp,hx,hy,Sem.run_bind,hr,Result.andThen_ok,Sem.run_pure]; rfl
   rw [hr']
   have hzs:zv.cells.size=K.sz:=by rw [← hz2,← hz1]; simp
   have hcells:(madeCells zv.cells (m.toNat*info.size)).toList=(List.replicate m.toNat cs).flatten:=by
    rw [hs,← hzs,made_flat _ (by omega),← hz1]
   have hlen:(madeCells zv.cells (m.toNat*info.size)).toList.length=m.toNat*K.sz:=by rw [Array.length_toList,size_madeCells,hs]
   refine h (some ⟨w.heap.size,0,none⟩) m.toNat _ (St.new s (fun a=>a.alloc _) (fun I _=>?_) ?_)
   ·obtain ⟨h',jo⟩:=Join.of_disj (h1:=Hp.one w.heap.size (.cells (madeCells zv.cells (m.toNat*info.size)) e)) (h2:=Hp.none) (fun _=>.inr rfl)
    have he:=jo.symm.eq_of_none
    refine ⟨h',.inr ⟨w.heap.size,m.toNat,[],[],(madeCells zv.cells (m.toNat*info.size)).toList,(0,0),Hp.none,by simp,by simp,by simp only [maxLen]; omega,by rw [hlen]; simp,.inl rfl,?_,rfl,rfl⟩,?_,?_⟩
    ·simp only [List.nil_append,List.append_nil,Array.toArray_toList]
     exact jo
    ·rw [he]
     intro b o e'
     simp only [Hp.one] at e'
     split at e'
     ·rename_i hb'
      subst hb'
      rw [← Option.some.inj e']
      show (w.heap.push _)[w.heap.size]?=_
      simp
     ·cases e'
    ·rw [he]
     intro b hb'
     simp only [Hp.one] at hb'
     split at hb'
     ·rename_i e'; exact Nat.le_of_eq e'.symm
     ·exact absurd rfl hb'
   ·intro b o e'
    have hlt:=(Array.getElem?_eq_some_iff.1 e').1
    show (w.heap.push _)[b]?=_
    rw [Array.getElem?_push,if_neg (Nat.ne_of_lt hlt)]
    exact e'
end
end Go.Pg
