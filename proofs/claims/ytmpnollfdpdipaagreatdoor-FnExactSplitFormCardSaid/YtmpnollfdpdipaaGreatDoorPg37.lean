import Derived.Test.YtmpnollfdpdipaaGreatDoorPg36
import Derived.OrdersIn
set_option linter.unusedVariables false
set_option linter.unusedSimpArgs false
namespace Go.Pg
theorem qz {ro:Option Nat}{P:Program}{ops:Array Oper}{Q:Exit→Act→World→Prop}(B:¬ LetsOut Q)(r:fw ops.toList=true){i:Nat}{K m:Act→World→Prop}(g:∀ a w,K a w→m a w){a:Act}{w:World}(h:wpOp P ops Q i K a w):wpOpIn (n' ro) 0 P ops Q i m a w:=by
  unfold wpOp at h
  unfold wpOpIn
  cases ho:ops[i]? with
  | none=>rw [ho] at h; exact g _ _ h
  | some o =>
    rw [ho] at h
    simp only at h ⊢
    have j:∀ c,o.op≠.defer c:=by
      intro c q
      have u:o∈ops.toList:=Array.mem_toList_iff.2 (Array.mem_of_getElem? ho)
      have:=List.all_eq_true.1 r o u
      rw [q] at this
      cases this
    split
    · rename_i hw
      rw [if_pos hw] at h
      have h:=h.resolve_right fun h=>B h.2
      refine ⟨fun _ _=>trivial,?_⟩
      have e:o.semAt (n' ro).round a.eval=execOp a.eval o:=Oper.semAt_eq _ _ _ j
      rw [e]
      exact kh (Oper.wp_mono g h)
    · rename_i hw
      rw [if_neg hw] at h
      exact ⟨fun _ _=>trivial,g _ _ h⟩
theorem ly {ro:Option Nat}{P:Program}{ops:Array Oper}{Q:Exit→Act→World→Prop}(g:¬ LetsOut Q)(e:fw ops.toList=true):∀ (fuel:Nat) (listed:Array Bool) (a:Act) (w:World),wpAny P .any ops Q fuel listed a w→wpAnyIn (n' ro) 0 P .any ops Q fuel listed a w
  | 0,_,_,_,h=>h
  | fuel+1,_,_,_,h=>⟨h.1,fun i j=>qz g e (fun a w=>ly g e fuel _ a w) (h.2 i j)⟩
def TE (X:Cx)(V:List HP)(σ:bL)(l:List Oper)(Q:Exit→bL→World→Prop):Prop :=
  ∀ w,St X.C w V→∀ a:Act,a.tmps.size=X.n.n→a.defers=X.n.ds→cT a=σ→∃ R:Exit→Act→World→Prop,(¬ LetsOut R)∧wpAny X.P .any l.toArray R l.length (Array.replicate l.length false) a w.drew∧∀ e a w,R e a w→dT X.n (NP Q) e a w
section
variable {α:Type}{X:Cx}{V:List HP}{σ:bL}{Q:Exit→bL→World→Prop}{l:List Oper}
theorem uC {V':List HP}(f:∀ w,St X.C w V→St X.C w V')(h:TE X V' σ l Q):TE X V σ l Q:=fun w s=>h w (f w s)
theorem sM {K:Kind α}{a:Option Addr}{n c:Nat}{xs:List α}(i:Nat)(e:fV (lk V i) K (.slice a n c) xs)(h:n=xs.length→TE X V σ l Q):TE X V σ l Q:=fun w s=>h (s.len i e) w s
theorem qB {K:Kind α}{a:Option Addr}{n c:Nat}{xs:List α}(i:Nat)(q:fV (lk V i) K (.slice a n c) xs)(h1:0<n)(h:∀ g o,a=some ⟨g,o,none⟩→TE X V σ l Q):TE X V σ l Q:=by
  intro w s
  obtain ⟨J,lw,A,u,e,h2,B,j⟩:=s.reads q
  have D:n=xs.length:=by injection e
  have r:a=A:=by injection e
  obtain ⟨g,o,m,_⟩:=j (by omega)
  exact h g o (by rw [r,m]) w s
theorem edr (k:Nat)(rs:List Nat)(h:fu l.toArray k=true→Region.noSelect l.toArray=true→TD X l.toArray k (rmL V rs) l.length (Array.replicate l.length false) V σ Q)(e:(fu l.toArray k&&Region.noSelect l.toArray)=true:=by kernel_rfl):TE X V σ l Q:=by
  intro w s a h1 h2 i
  rw [Bool.and_eq_true] at e
  refine ⟨_,lv (N:=X.n) (Q:=NP Q) fun _ _ h=>h,gw (S:=fun w=>St X.C w (rmL V rs)) (k:=k) _ _ _ _ ?_,fun _ _ _ h=>h⟩
  exact h e.1 e.2 a w.drew h1 h2 i (fun j o _ g=>by
      exfalso
      by_cases hj:j<l.length
      · simp [Array.getElem?_replicate,hj] at g
      · simp [Array.getElem?_replicate,hj] at g) s.drew
theorem qC {A:Type}(pf:A→Prop)(i:A→List (Nat×Value))(g:A→List HP)(r:TE X V σ l (eP (Jn X pf i g) Q))(u:∀ a σ',pf a→TQ X (g a) (jU σ' (i a)) .normal Q):TE X V σ l Q:=by
  intro w s a h1 h2 m
  obtain ⟨R,B,D,E⟩:=r w s a h1 h2 m
  refine ⟨R,B,D,fun e a w h=>gg (E e a w h) fun q=>?_⟩
  cases e with
  | normal =>
    obtain ⟨x,j,h1,h2⟩:=q
    have:=u x (cT a) j w h2
    rw [gh h1] at this
    exact this
  | _=>exact q
end
theorem uD {A:Type}{P:Program}{l:Nat}{g:Loop}{p:Tmp}{n i1 b i2:Nat}{I J:List Oper}{σ:bL}{x:Value}{go:Bool}(u j:A→List HP)
    (i:Rec g #[p] (.region i1 I.toArray false) (.block b (.region i2 J.toArray true)) n σ) (h1:fw I=true) (h2:fw J=true) (hm:P.follows .mixedOrders=true) (hp:Nat.blt p n=true)
    (G:∀ a,∃ σ2,∀ C V,TL ⟨P,.of n,C⟩ I.toArray (u a++V) (gX σ p x) I (uo ⟨P,.of n,C⟩ σ2 (u a++V))∧TE ⟨P,.of n,C⟩ (u a++V) σ2 J (uq ⟨P,.of n,C⟩ go j V)) :
    un P l [x] [pe fun a=>nZ l g::u a] (fun _:Unit=>(.bool go,[pe fun a=>nZ l g::j a])):=by
  intro C w V s
  obtain ⟨a,s⟩:=s.peo
  have hl:=gj s 0 rfl
  refine ⟨g.fn,_,g.assign,g.body,run_yield hl (by rw [i.ps]; rfl),?_⟩
  rw [i.asn,i.body,i.ps]
  have r:((#[p]:Array Tmp).zip [x].toArray).foldl (fun tmps (t,a)=>tmps.setIfInBounds t a) g.tmps=g.tmps.setIfInBounds p x:=by
    simp
  rw [r]
  have Y:(g.tmps.setIfInBounds p x).size=n:=by rw [Array.size_setIfInBounds,i.sz]
  have U:p<g.tmps.size:=by rw [i.sz]; exact Nat.lt_of_lt_of_le (Nat.lt_succ_self _) (Nat.le_of_ble_eq_true hp)
  have B:cT {tmps:=g.tmps.setIfInBounds p x,defers:=[]}=gX σ p x:=by
    have:=gf {tmps:=g.tmps,defers:=[]} (some p) x (fun d e=>by cases e; exact U)
    rw [show ({tmps:=g.tmps,defers:=[]}:Act).put (some p) x={tmps:=g.tmps.setIfInBounds p x,defers:=[]} from rfl] at this
    rw [this,← i.env]
    rfl
  obtain ⟨σ2,wk⟩:=G a
  have wa:=(wk C (nZ l g::V)).1
  have wb:=(wk C (nZ l {g with state:=.busy}::V)).2
  refine roundIn_of_wpIn trivial (n:=0) ?_
  have g1:=iy (ro:=some l) (lv (N:=.of n) (Q:=uo ⟨P,.of n,C⟩ σ2 (u a++nZ l g::V)) fun _ _ h=>h) _ _ w h1 (wa w (St.dn s) _ Y rfl B)
  refine wpIn_mono (wpIn_region_lit g1) ?_
  rintro e a' w' q
  cases e with
  | normal =>
    obtain ⟨Z,q2,m,M⟩:=dK q (by simp)
    have M:=St.up M
    have T:=gj M 0 rfl
    refine ⟨_,run_beginRound T i.st,?_⟩
    have s2:=St.dn (M.putObj (o':=.loop {g with state:=.busy}))
    obtain ⟨R,r1,g2,r3⟩:=wb (w'.putObj l (.loop {g with state:=.busy})) s2 a' Z q2 m
    have g3:=ly (ro:=some l) r1 (ops:=J.toArray) (by simpa using h2) _ _ _ _ g2
    refine wpIn_block (wpIn_mono (wpIn_region_any (F:=n' (some l)) hm (by simpa using g3)) ?_)
    rintro e O E q
    have q:dT (.of n) (uq ⟨P,.of n,C⟩ go j (nZ l {g with state:=.busy}::V)) e O E:=gg (r3 _ _ _ q) fun m=>by cases e<;>first | exact m | exact m.elim
    cases e with
    | normal =>
      obtain ⟨Z,q2,rfl,y,m⟩:=dK q (by simp)
      have m:=St.up m
      have D:=gj m 0 rfl
      refine ⟨_,_,run_endRound none D,(),rfl,?_⟩
      have s3:=m.putObj (o':=.loop {{g with state:=.busy} with state:=.ready,pending:=none})
      rw [ki i.st i.pe] at s3
      refine Eq.mp (congrArg (fun o=>St C (E.putObj l o) (pe (fun a=>nZ l g::j a)::V)) ?_) (St.pei y s3)
      exact (congrArg Obj.loop (ki (s:=.busy) i.st i.pe)).symm
    | ret=>rcases q with ⟨_,_,q⟩|⟨_,q⟩<;>exact q.elim
    | _=>exact (dK q (by simp)).2.2.elim
  | ret=>rcases q with ⟨_,_,q⟩|⟨_,q⟩<;>exact q.elim
  | _=>exact (dK q (by simp)).2.2.elim
end Go.Pg
