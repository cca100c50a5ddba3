import Derived.Test.YtmpnollfdpdipaaGreatPg20
import Derived.Deep.Slices
import Derived.Carry
set_option linter.unusedVariables false
namespace Go.Pg
def hpOf (W:World):Hp:=fun b=>W.heap[b]?
def Rc (P:Program)(t:TypeId){α:Type}(K:Kind α)(C:α→Prop):Prop :=
 ∀ (W:World) (H:Type) (enc:TypeId×Value→H) (fuel:Nat) (cs:List Value) (x:DataW H×List MemPlace),DataW.trod enc P W 0 (fun _=>true) true fuel t cs=some x→∃ a:α,K.rd (hpOf W) a cs∧C a
def fld3 (P:Program)(t i:Nat):Option (TypeId×Nat×Nat):=match P.underlying t with
 | some (.struct fs)=>(fs[i]?).map fun f=>(f.type,f.offset,P.cellsOf f.type)
 | _=>none
def intB (P:Program)(t:Nat)(k:IntKind):Bool:=match P.underlying t with
 | some (.int k')=>k'==k
 | _=>false
section
variable {P:Program}{t:TypeId}{α:Type}
theorem rc_int {k:IntKind}(h:intB P t k=true):Rc P t (Kind.int k) (fun _=>True):=by
 intro W H enc fuel cs x hx
 have ht:P.underlying t=some (.int k):=by
  unfold intB at h
  split at h
  ·rename_i k' e; rw [e,eq_of_beq h]
  ·cases h
 cases fuel with
 | zero=>simp [DataW.trod] at hx
 | succ n =>
  unfold DataW.trod at hx
  rw [ht] at hx
  split at hx<;>simp_all
  exact ⟨_,rfl⟩
theorem rc_str (h:P.underlying t=some .string):Rc P t Kind.str (fun s=>s.length≤maxLen):=by
 intro W H enc fuel cs x hx
 cases fuel with
 | zero=>simp [DataW.trod] at hx
 | succ n =>
  unfold DataW.trod at hx
  rw [h] at hx
  split at hx
  all_goals first | (cases hx; done) | skip
  case h_4 s _ =>
   have hs:s.size≤maxLen:=by
    split at hx
    ·assumption
    ·cases hx
   refine ⟨s.data.toList,rfl,?_⟩
   show s.data.toList.length≤maxLen
   rw [Array.length_toList]; exact hs
  all_goals first
   | (rename_i e; cases e; done)
   | (rename_i e _; cases e; done)
   | (rename_i e _ _; cases e; done)
   | (cases hx; done)
   | simp_all
theorem rc_sl {K:Kind α}{C:α→Prop}[Inhabited α]{e e':Nat}(ht:slB P t=some e)(he:Rc P e K C)(hc:P.cellsOf e=K.sz)(hs:Nat.blt 0 K.sz=true):Rc P t (Kind.sl e' K) (fun xs=>xs.length≤maxLen∧∀ x∈xs,C x):=by
 intro W H enc fuel cs x hx
 have hs:0<K.sz:=Nat.le_of_ble_eq_true hs
 rcases Deep.open_slice (slB_eq ht) hx with ⟨rfl,_⟩|⟨a,len,cap,m,n,D,Pl,rfl,_,hl,hm,hmm,_,hel⟩
 ·exact ⟨[],⟨_,rfl,none,0,rfl,Nat.le_refl _,Nat.zero_le _,fun h=>absurd h (Nat.lt_irrefl _)⟩,Nat.zero_le _,fun x h=>by cases h⟩
 ·simp only [if_true] at hmm
  have hall:∀ i,∃ y:α,i<len→C y∧∃ cs',K.rd (hpOf W) y cs'∧∀ q u,cs'[q]?=some u→W.cell? ((a.add (i*P.cellsOf e)).add q)=some u:=by
   intro i
   by_cases hi:i<len
   ·obtain ⟨cs',h1,h2⟩:=hel i (by omega)
    obtain ⟨y,hy,hC⟩:=he W H enc _ _ _ h2
    refine ⟨y,fun _=>⟨hC,cs',hy,fun q u hq=>?_⟩⟩
    obtain ⟨_,hlen,hget⟩:=World.cells?_some h1
    rw [hget q (by rw [← hlen]; exact (List.getElem?_eq_some_iff.1 hq).1),hq]
   ·exact ⟨default,fun h=>absurd h hi⟩
  obtain ⟨g,hg⟩:=Classical.axiomOfChoice hall
  refine ⟨(List.range len).map g,⟨_,rfl,some a,cap,by simp,by simpa using hl,by simp; omega,fun hp=>?_⟩,by simp; omega,fun x hx=>?_⟩
  rotate_left
  ·obtain ⟨i,hi,rfl⟩:=List.mem_map.1 hx
   exact (hg i (List.mem_range.1 hi)).1
  have hp:0<len:=by simpa using hp
  obtain ⟨b,o,sp⟩:=a
  have hsp:sp=none:=by
   obtain ⟨_,cs',h1,h2⟩:=hg 0 hp
   have hlen:=K.rd_len h1
   have:=h2 0 _ (List.getElem?_eq_getElem (by omega))
   simpa [Addr.add] using World.cell?_spot this
  subst hsp
  refine ⟨b,o,rfl,fun j y hy=>?_⟩
  have hj:j<len:=by
   have:=(List.getElem?_eq_some_iff.1 hy).1
   simpa using this
  have hy':y=g j:=by simpa [hj] using hy.symm
  subst hy'
  obtain ⟨_,cs',h1,h2⟩:=hg j hj
  refine ⟨cs',h1,fun i u hu=>?_⟩
  have:=h2 i u hu
  rw [add_eq,add_eq,hc] at this
  unfold World.cell? at this
  unfold cellH hpOf
  simp only [Option.isSome_none,Bool.false_eq_true,if_false] at this
  cases hb:W.heap[b]? with
  | none=>rw [hb] at this; cases this
  | some ob =>
   rw [hb] at this
   cases ob with
   | cells c ty fr=>exact this
   | _=>cases this
theorem Rc.mono {K:Kind α}{C D:α→Prop}(h:Rc P t K C)(hd:∀ a,C a→D a):Rc P t K D:=fun W H enc fuel cs x hx=>let ⟨a,p,q⟩:=h W H enc fuel cs x hx; ⟨a,p,hd a q⟩
theorem rd_fld {P:Program}{t i ty off sz:Nat}(h:fld3 P t i=some (ty,off,sz)){W:World}{H:Type}{enc:TypeId×Value→H}{fuel:Nat}{cs:List Value}{x:DataW H×List MemPlace}(hx:DataW.trod enc P W 0 (fun _=>true) true fuel t cs=some x) :
  cs.length=P.cellsOf t∧∃ n y,DataW.trod enc P W 0 (fun _=>true) true n ty ((cs.drop off).take sz)=some y:=by
 unfold fld3 at h
 split at h
 ·rename_i fs ht
  obtain ⟨xs,n,_,rfl,hl,hlen,hf⟩:=DataW.trod_struct ht hx
  cases hfi:fs[i]? with
  | none=>rw [hfi] at h; cases h
  | some f =>
   rw [hfi] at h
   simp only [Option.map_some,Option.some.injEq,Prod.mk.injEq] at h
   obtain ⟨rfl,rfl,rfl⟩:=h
   have hi:i<fs.size:=(Array.getElem?_eq_some_iff.1 hfi).1
   have h2:=hf i f (by simpa using hfi)
   refine ⟨hl,n,xs[i]'(by rw [hlen]; exact hi),?_⟩
   rw [h2]
   simp
 ·cases h
theorem seg {cs:List Value}(o s:Nat):cs.drop o=(cs.drop o).take s++cs.drop (o+s):=by
 rw [← List.drop_drop,List.take_append_drop]
def oldH (W:World):HP:=⟨fun I h=>h=Hp.none∧Hp.le (hpOf W) I,fun l e=>⟨e.1,Hp.le_trans e.2 l⟩⟩
theorem st_old {W:World}{Vs:List HP}(h:∀ q∈Vs,q.p (hpOf W) Hp.none):St W W (Vs++[oldH W]):=by
 refine ⟨⟨rfl,rfl,rfl⟩,hpOf W,Hp.none,hpOf W,(Join.none _).symm,fun b o e=>e,?_⟩
 have:∀ Vs:List HP,(∀ q∈Vs,q.p (hpOf W) Hp.none)→star Vs (hpOf W) Hp.none:=by
  intro Vs
  induction Vs with
  | nil=>intro _; rfl
  | cons q Vs ih=>intro h; exact ⟨Hp.none,Hp.none,Join.none _,h q (by simp),ih (fun p hp=>h p (by simp [hp]))⟩
 exact this _ (by
  intro q hq
  rcases List.mem_append.1 hq with hq | hq
  ·exact h q hq
  ·rw [List.mem_singleton.1 hq]; exact ⟨rfl,Hp.le_refl _⟩)
theorem below_old {W w':World}{V:List HP}(s:St W w' (V++[oldH W])):RowKit.Below W.heap.size W w':=by
 obtain ⟨sm,I,h,g,j,l,st⟩:=s
 obtain ⟨h1,h2,j',sa,h3,h4,j2,⟨rfl,hle⟩,_⟩:=star_app.1 st
 have hb:∀ b o,W.heap[b]?=some o→w'.heap[b]?=some o:=fun b o e=>l b o (j.left b o (hle b o e))
 refine ⟨sm.os,sm.tape,sm.output,?_,fun k hk=>?_⟩
 ·refine Nat.le_of_not_lt fun hlt=>?_
  have hk:w'.heap.size<W.heap.size:=hlt
  have:=hb w'.heap.size _ (Array.getElem?_eq_getElem hk)
  have:=(Array.getElem?_eq_some_iff.1 this).1
  omega
 ·rw [hb k _ (Array.getElem?_eq_getElem hk),Array.getElem?_eq_getElem hk]
theorem cl_of {W:World}{g k:Nat}{v:Value}(h:W.cell? ⟨g,k,none⟩=some v):(cl g k [v]).p (hpOf W) Hp.none:=by
 refine ⟨rfl,fun i u hu=>?_⟩
 cases i with
 | succ i=>simp at hu
 | zero =>
  obtain rfl:v=u:=by simpa using hu
  unfold World.cell? at h
  unfold cellH hpOf
  simp only [Option.isSome_none,Bool.false_eq_true,if_false] at h
  cases hb:W.heap[g]? with
  | none=>rw [hb] at h; cases h
  | some ob =>
   rw [hb] at h
   cases ob with
   | cells c ty fr=>exact h
   | _=>cases h
end
end Go.Pg
