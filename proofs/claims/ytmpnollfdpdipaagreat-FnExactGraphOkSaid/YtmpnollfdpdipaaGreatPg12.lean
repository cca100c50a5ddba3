import Derived.Test.YtmpnollfdpdipaaGreatPg11
import Derived.OrdersHeld
set_option linter.unusedVariables false
set_option linter.unusedSimpArgs false
namespace Go.Pg
section
variable {P:Program}{ops:Array Oper}{Q:Exit→Act→World→Prop}{S:World→Prop}{k:Nat}
def Shut (ops:Array Oper)(listed:Array Bool):Prop:=∀ j o,ops[j]?=some o→listed.getD j false=true→∀ e∈o.after,Region.binds .any e=true→listed.getD e.on false=true
def reach (ops:Array Oper):Nat→Nat→Nat→Bool
 | 0,_,_=>false
 | f+1,j,i=>match ops[j]? with
  | some o=>o.after.any (fun e=>Region.binds .any e&&e.on==i)||o.after.any (fun e=>Region.binds .any e&&reach ops f e.on i)
  | none=>false
theorem reach_listed {listed:Array Bool}(hs:Shut ops listed):∀ (f j i:Nat) (o:Oper),ops[j]?=some o→(∀ e∈o.after,Region.binds .any e=true→listed.getD e.on false=true)→reach ops f j i=true→listed.getD i false=true:=by
 intro f
 induction f with
 | zero=>intro j i o _ _ h; cases h
 | succ f ih =>
  intro j i o ho ha h
  simp only [reach,ho,Bool.or_eq_true,Array.any_eq_true',Bool.and_eq_true,beq_iff_eq] at h
  rcases h with ⟨e,he,hb,hi⟩|⟨e,he,hb,hr⟩
  ·rw [← hi]; exact ha e he hb
  ·have hl:=ha e he hb
   cases hoe:ops[e.on]? with
   | none =>
    cases f with
    | zero=>cases hr
    | succ f=>simp [reach,hoe] at hr
   | some o'=>exact ih e.on i o' hoe (hs e.on o' hoe hl) hr
def tailB (ops:Array Oper)(k:Nat):Bool:=(List.range ops.size).all fun j=>Nat.blt j k||(List.range k).all fun i=>reach ops ops.size j i
def tailI (ops:Array Oper)(k i:Nat):Bool:=(List.range ops.size).all fun j=>Nat.blt j k||reach ops ops.size j i
theorem tailB_I {ops:Array Oper}{k i:Nat}(h:tailB ops k=true)(hik:Nat.blt i k=true):tailI ops k i=true:=by
 simp only [tailB,tailI,List.all_eq_true,List.mem_range,Bool.or_eq_true] at h ⊢
 intro j hj
 rcases h j hj with h | h
 ·exact .inl h
 ·exact .inr (h i (Nat.lt_of_lt_of_le (Nat.lt_succ_self _) (Nat.le_of_ble_eq_true hik)))
theorem Shut.step {listed:Array Bool}{j:Nat}(h:Shut ops listed)(hj:j∈Region.ready .any ops listed):Shut ops (listed.setIfInBounds j true):=by
 obtain ⟨_,o,ho,ha⟩:=mem_ready.1 hj
 intro i o' hi hl e he hb
 by_cases hij:i=j
 ·subst hij
  rw [ho] at hi
  obtain rfl:=Option.some.inj hi
  exact getD_set_true (ha e he hb)
 ·rw [getD_set_ne false (Ne.symm hij)] at hl
  exact getD_set_true (h i o' hi hl e he hb)
def calm (ops:Array Oper)(k:Nat)(listed:Array Bool):Bool:=(List.range ops.size).all fun j=>Nat.blt j k||!listed.getD j false
theorem calm_set {listed:Array Bool}{i:Nat}(hik:Nat.blt i k=true)(h:calm ops k listed=true):calm ops k (listed.setIfInBounds i true)=true:=by
 simp only [calm,List.all_eq_true,List.mem_range,Bool.or_eq_true,Bool.not_eq_true'] at h ⊢
 intro j hj
 by_cases hji:j=i
 ·subst hji; exact .inl hik
 ·rw [getD_set_ne false (Ne.symm hji)]; exact h j hj
def wpAnyT (P:Program)(ops:Array Oper)(Q:Exit→Act→World→Prop)(S:World→Prop)(k:Nat):Nat→Array Bool→Act→World→Prop
 | 0,listed,a,w=>Region.ready .any ops listed=[]∧Q .normal a w
 | fuel+1,listed,a,w =>
  (Region.ready .any ops listed=[]→Q .normal a w) ∧
  ∀ i∈Region.ready .any ops listed,wpOp P ops Q i (fun a' w'=>(Nat.blt i k=true→calm ops k listed=true→S w')∧wpAnyT P ops Q S k fuel (listed.setIfInBounds i true) a' w') a w
theorem wpAny_of_T:∀ (fuel:Nat) (listed:Array Bool) (a:Act) (w:World),wpAnyT P ops Q S k fuel listed a w→wpAny P .any ops Q fuel listed a w
 | 0,_,_,_,h=>h
 | fuel+1,_,_,_,h=>⟨h.1,fun i hi=>wpOp_mono (fun a' w' h'=>wpAny_of_T fuel _ a' w' h'.2) (h.2 i hi)⟩
theorem wpAnyT_first {i:Nat}{oi:Oper}{v:Value}(hi:ops[i]?=some oi)(hik:Nat.blt i k=true)(ht:tailI ops k i=true)(hsel:∀ (j:Nat) (o:Oper) cs b,ops[j]?=some o→o.op≠.select cs b)
  (hQ:∀ c a w,Q (.panic c) (a.put oi.dst v) w→Q (.panic c) a w) :
  ∀ (fuel:Nat) (listed:Array Bool) (a:Act) (w:World),Shut ops listed →
   (∀ j oj,ops[j]?=some oj→j≠i→listed.getD j true=false→(∀ e∈oj.after,Region.binds .any e=true→e.on≠i)→oi.apart ops oj=true) →
   i∈Region.ready .any ops listed→YieldsIf P ops S oi v a→S w →
   wpAnyT P ops Q S k fuel (listed.setIfInBounds i true) (a.put oi.dst v) w→wpAnyT P ops Q S k (fuel+1) listed a w:=by
 intro fuel
 induction fuel with
 | zero =>
  intro listed a w _ _ hr hy hS H
  refine ⟨fun h=>(by rw [h] at hr; cases hr),fun j hj=>?_⟩
  by_cases hji:j=i
  ·subst hji; exact hy.wpOp hi hS ⟨fun _ _=>hS,H⟩
  ·have:=ready_mono hj hji
   rw [H.1] at this
   cases this
 | succ fuel ih =>
  intro listed a w hsh hfree hr hy hS H
  refine ⟨fun h=>(by rw [h] at hr; cases hr),fun j hj=>?_⟩
  by_cases hji:j=i
  ·subst hji; exact hy.wpOp hi hS ⟨fun _ _=>hS,H⟩
  ·have h1:=H.2 j (ready_mono hj hji)
   obtain ⟨hjun,oj,hoj,hall⟩:=mem_ready.1 hj
   have h0:=(mem_ready.1 hr).1
   have hin:listed.getD i false=true→False:=fun h1=>by
    rcases Nat.lt_or_ge i listed.size with h' | h'
    ·simp [h'] at h0 h1; rw [h0] at h1; cases h1
    ·simp [Array.getElem?_eq_none h'] at h1
   have hjk:Nat.blt j k=true:=by
    cases hb:Nat.blt j k with
    | true=>rfl
    | false =>
     simp only [tailI,List.all_eq_true,List.mem_range,Bool.or_eq_true] at ht
     have h3:=(ht j (Array.getElem?_eq_some_iff.1 hoj).1).resolve_left (by rw [hb]; exact fun h=>by cases h)
     exact (hin (reach_listed hsh _ j i oj hoj hall h3)).elim
   have hcalm:calm ops k listed=true:=by
    simp only [calm,List.all_eq_true,List.mem_range,Bool.or_eq_true,Bool.not_eq_true']
    intro m hm
    cases hb:Nat.blt m k with
    | true=>exact .inl rfl
    | false =>
     refine .inr ?_
     cases hl:listed.getD m false with
     | false=>rfl
     | true =>
      simp only [tailI,List.all_eq_true,List.mem_range,Bool.or_eq_true] at ht
      have h3:=(ht m hm).resolve_left (by rw [hb]; exact fun h=>by cases h)
      have ho:=Array.getElem?_eq_getElem hm
      exact (hin (reach_listed hsh _ m i _ ho (hsh m _ ho hl) h3)).elim
   have hnot:∀ e∈oj.after,Region.binds .any e=true→e.on≠i:=fun e he hb heq=>hin (heq▸hall e he hb)
   have h2:=wpOp_putIf hoj (hfree j oj hoj hji hjun hnot) (fun cs b=>hsel i oi cs b hi) (fun cs b=>hsel j oj cs b hoj) hQ hy h1
   have hfree':∀ m ok,ops[m]?=some ok→m≠i→(listed.setIfInBounds j true).getD m true=false →
     (∀ e∈ok.after,Region.binds .any e=true→e.on≠i)→oi.apart ops ok=true:=fun m ok hk hki hun hno=>by
    refine hfree m ok hk hki ?_ hno
    by_cases hjm:j=m
    ·subst hjm; exact hjun
    ·rw [getD_set_ne true hjm] at hun; exact hun
   refine wpOp_mono (fun a' w' h3=>⟨fun q1 q2=>h3.2.1 q1 (calm_set hik q2),ih (listed.setIfInBounds j true) a' w' (hsh.step hj) hfree' (ready_mono hr (Ne.symm hji)) h3.1 (h3.2.1 hjk (calm_set hik hcalm)) ?_⟩) h2
   rw [Array.setIfInBounds_comm _ _ hji]
   exact h3.2.2
end
def NP (Q:Exit→Env→World→Prop):Exit→Env→World→Prop
 | .panic _,_,_=>False
 | .outgrown,_,_=>False
 | e,σ,w=>Q e σ w
def TD (X:Cx)(ops:Array Oper)(k:Nat)(V0:List HP)(fuel:Nat)(listed:Array Bool)(V:List HP)(σ:Env)(Q:Exit→Env→World→Prop):Prop :=
 ∀ a w,a.tmps.size=X.n.n→a.defers=X.n.ds→envOf a=σ→Shut ops listed→St X.C w V→wpAnyT X.P ops (lift X.n (NP Q)) (fun w=>St X.C w V0) k fuel listed a w
def DK (X:Cx)(ops:Array Oper)(k:Nat)(V0:List HP)(fuel:Nat)(listed:Array Bool)(i:Nat)(Q:Exit→Env→World→Prop):Exit→Env→World→Prop
 | .normal,σ,w=>∀ a,a.tmps.size=X.n.n→a.defers=X.n.ds→envOf a=σ→Shut ops (listed.setIfInBounds i true)→(Nat.blt i k=true→calm ops k listed=true→St X.C w V0)∧wpAnyT X.P ops (lift X.n (NP Q)) (fun w=>St X.C w V0) k fuel (listed.setIfInBounds i true) a w
 | .panic _,_,_=>False
 | .outgrown,_,_=>False
 | e,σ,w=>Q e σ w
def DAll (X:Cx)(ops:Array Oper)(k:Nat)(V0:List HP)(fuel:Nat)(listed:Array Bool)(V:List HP)(σ:Env)(Q:Exit→Env→World→Prop):List Nat→Prop
 | []=>True
 | i::is=>(match ops[i]? with
  | some o=>TL X ops V σ [o] (DK X ops k V0 fuel listed i Q)
  | none=>False)∧DAll X ops k V0 fuel listed V σ Q is
section
variable {X:Cx}{V V0:List HP}{σ:Env}{Q:Exit→Env→World→Prop}{ops:Array Oper}{o:Oper}{k fuel:Nat}{listed:Array Bool}
variable {d:Nat}{op:Op}{ty:TypeId}{pos:String}{af:Array Edge}{gd:Option (Nat×Bool)}
theorem c_draw {id:Nat}{l:List Oper}(k:Nat)(V0:List HP)(hm:X.P.follows .mixedOrders=true)(ht:(tailB l.toArray k&&Region.noSelect l.toArray)=true)
  (h:tailB l.toArray k=true→Region.noSelect l.toArray=true→TD X l.toArray k V0 l.length (Array.replicate l.length false) V σ Q):TC X V σ (.region id l.toArray true) Q:=by
 intro w s a h1 h2 h3
 rw [Bool.and_eq_true] at ht
 refine wp_mono (P:=X.P) (Q:=lift X.n (NP Q)) (wp_region_any hm (wpAny_of_T (S:=fun w=>St X.C w V0) (k:=k) _ _ _ _ ?_)) ?_
 ·have:=h ht.1 ht.2 a w.drew h1 h2 h3 (fun j o _ hl=>by
   exfalso
   by_cases hj:j<l.length
   ·simp [Array.getElem?_replicate,hj] at hl
   ·simp [Array.getElem?_replicate,hj] at hl) s.drew
  simpa using this
 ·rintro e a w q
  refine lift_mono q fun q3=>?_
  cases e<;>first | exact q3 | exact q3.elim
theorem d_done (hr:Region.ready .any ops listed=[])(h:TQ X V σ .normal Q):TD X ops k V0 fuel listed V σ Q:=by
 intro a w h1 h2 h3 _ s
 have hq:lift X.n (NP Q) .normal a w:=.inl ⟨h1,h2,by rw [h3]; exact h w s⟩
 cases fuel with
 | zero=>exact ⟨hr,hq⟩
 | succ fuel=>exact ⟨fun _=>hq,by rw [hr]; intro i hi; cases hi⟩
theorem d_v2 (i:Nat)(v:Value)(hi:ops[i]?=some ⟨some d,op,ty,pos,af,gd⟩)(hv:VO X V0 σ ⟨some d,op,ty,pos,af,gd⟩ v)(hw:want ops σ ⟨some d,op,ty,pos,af,gd⟩=true)(hd:dok X.n (some d)=true)
  (hik:Nat.blt i k=true) (ht:tailI ops k i=true) (hn:Region.noSelect ops=true) (hf:(Region.free .any ops listed i&&(Region.ready .any ops listed).contains i)=true) (hS:∀ w,St X.C w V→St X.C w V0)
  (h:TD X ops k V0 fuel (listed.setIfInBounds i true) V (upd σ d v) Q):TD X ops k V0 (fuel+1) listed V σ Q:=by
 intro a w h1 h2 h3 hsh s
 rw [Bool.and_eq_true] at hf
 obtain ⟨p1,p2,p3⟩:=put_facts (o:=⟨some d,op,ty,pos,af,gd⟩) hd h1 h2 h3 v
 have hr:i∈Region.ready .any ops listed:=by simpa using hf.2
 refine wpAnyT_first (v:=v) hi hik ht (Region.noSelect_spec hn) ?_ fuel listed a w hsh (Region.free_spec hi hf.1) hr ?_ (hS w s) (h _ w p1 p2 p3 (hsh.step hr) s)
 ·rintro c a w q
  exact (lift_n q (by simp)).2.2.elim
 ·exact .inl ⟨by rw [wanted_env,h3]; exact hw,fun w s=>by rw [eval_env,h3]; exact hv w s⟩
theorem d_v (i:Nat)(v:Value)(hi:ops[i]?=some ⟨some d,op,ty,pos,af,gd⟩)(hv:VO X V0 σ ⟨some d,op,ty,pos,af,gd⟩ v)(hw:want ops σ ⟨some d,op,ty,pos,af,gd⟩=true)(hd:dok X.n (some d)=true)
  (hik:Nat.blt i k=true) (ht:tailB ops k=true) (hn:Region.noSelect ops=true) (hf:(Region.free .any ops listed i&&(Region.ready .any ops listed).contains i)=true) (hS:∀ w,St X.C w V→St X.C w V0)
  (h:TD X ops k V0 fuel (listed.setIfInBounds i true) V (upd σ d v) Q):TD X ops k V0 (fuel+1) listed V σ Q :=
 d_v2 i v hi hv hw hd hik (tailB_I ht hik) hn hf hS h
theorem d_off2 (i:Nat)(hi:ops[i]?=some ⟨some d,op,ty,pos,af,gd⟩)(hw:want ops σ ⟨some d,op,ty,pos,af,gd⟩=false)(hd:dok X.n (some d)=true)
  (hik:Nat.blt i k=true) (ht:tailI ops k i=true) (hn:Region.noSelect ops=true) (hf:(Region.free .any ops listed i&&(Region.ready .any ops listed).contains i)=true) (hS:∀ w,St X.C w V→St X.C w V0)
  (h:TD X ops k V0 fuel (listed.setIfInBounds i true) V (upd σ d undef) Q):TD X ops k V0 (fuel+1) listed V σ Q:=by
 intro a w h1 h2 h3 hsh s
 rw [Bool.and_eq_true] at hf
 obtain ⟨p1,p2,p3⟩:=put_facts (o:=⟨some d,op,ty,pos,af,gd⟩) hd h1 h2 h3 undef
 have hr:i∈Region.ready .any ops listed:=by simpa using hf.2
 refine wpAnyT_first (v:=undef) hi hik ht (Region.noSelect_spec hn) ?_ fuel listed a w hsh (Region.free_spec hi hf.1) hr ?_ (hS w s) (h _ w p1 p2 p3 (hsh.step hr) s)
 ·rintro c a w q
  exact (lift_n q (by simp)).2.2.elim
 ·exact .inr ⟨by rw [wanted_env,h3]; exact hw,rfl⟩
theorem d_off (i:Nat)(hi:ops[i]?=some ⟨some d,op,ty,pos,af,gd⟩)(hw:want ops σ ⟨some d,op,ty,pos,af,gd⟩=false)(hd:dok X.n (some d)=true)
  (hik:Nat.blt i k=true) (ht:tailB ops k=true) (hn:Region.noSelect ops=true) (hf:(Region.free .any ops listed i&&(Region.ready .any ops listed).contains i)=true) (hS:∀ w,St X.C w V→St X.C w V0)
  (h:TD X ops k V0 fuel (listed.setIfInBounds i true) V (upd σ d undef) Q):TD X ops k V0 (fuel+1) listed V σ Q :=
 d_off2 i hi hw hd hik (tailB_I ht hik) hn hf hS h
theorem d_all (rs:List Nat)(hr:Region.ready .any ops listed=rs)(hne:Nat.blt 0 rs.length=true)(h:DAll X ops k V0 fuel listed V σ Q rs):TD X ops k V0 (fuel+1) listed V σ Q:=by
 intro a w h1 h2 h3 hsh s
 refine ⟨fun h0=>(by rw [hr] at h0; rw [h0] at hne; cases hne),fun i hi=>?_⟩
 have hi':=hi
 rw [hr] at hi
 clear hr hne
 induction rs with
 | nil=>cases hi
 | cons j rs ih =>
  rcases List.mem_cons.1 hi with rfl | hi
  ·have hj:=h.1
   obtain ⟨_,o,ho,_⟩:=mem_ready.1 hi'
   rw [ho] at hj
   have hl:=hj w s a h1 h2 h3
   unfold wpOp
   simp only [ho]
   unfold wpList at hl
   split
   ·rename_i hw
    rw [if_pos hw] at hl
    have up:∀ r,o.upon X.P a (wpList X.P ops (lift X.n (DK X ops k V0 fuel listed i Q)) []) (lift X.n (DK X ops k V0 fuel listed i Q)) r →
      o.upon X.P a (fun a' w'=>(Nat.blt i k=true→calm ops k listed=true→St X.C w' V0)∧wpAnyT X.P ops (lift X.n (NP Q)) (fun w=>St X.C w V0) k fuel (listed.setIfInBounds i true) a' w') (lift X.n (NP Q)) r:=by
     have hq:∀ c a w,lift X.n (DK X ops k V0 fuel listed i Q) (.panic c) a w→lift X.n (NP Q) (.panic c) a w:=by
      rintro c a w q
      exact (lift_n q (by simp)).2.2.elim
     have hk:∀ a' w',wpList X.P ops (lift X.n (DK X ops k V0 fuel listed i Q)) [] a' w'→(Nat.blt i k=true→calm ops k listed=true→St X.C w' V0)∧wpAnyT X.P ops (lift X.n (NP Q)) (fun w=>St X.C w V0) k fuel (listed.setIfInBounds i true) a' w':=by
      rintro a' w' q
      obtain ⟨q1,q2,q3⟩:=lift_n q (by simp)
      exact q3 a' q1 q2 rfl (hsh.step hi')
     intro r hr
     match r,hr with
     | .ok (.value v) w',hr=>exact hk _ _ hr
     | .ok .skip w',hr=>exact hk _ _ hr
     | .ok (.defer _) w',hr=>exact hk _ _ hr
     | .ok (.enter f args) w',hr =>
      refine Calls.mono' hr ?_
      intro e w'' he
      cases e with
      | returned v=>exact hk _ _ he
      | panicked c=>exact hq _ _ _ he
      | outgrown =>
       obtain ⟨b,u,hb⟩:=he
       exact (lift_n hb (by simp)).2.2.elim
     | .ok (.row row args) w',hr=>exact Rows.mono hr fun v w'' h=>hk _ _ h
     | .halt (.panic v) w',hr=>exact hq _ _ _ hr
    rcases hl with hl | ⟨h1,b,u,hb⟩
    ·exact .inl (up _ hl)
    ·exact (lift_n hb (by simp)).2.2.elim
   ·rename_i hw
    rw [if_neg hw] at hl
    obtain ⟨q1,q2,q3⟩:=lift_n hl (by simp)
    exact q3 _ q1 q2 rfl (hsh.step hi')
  ·exact ih h.2 hi
theorem d_one (i:Nat)(hr:Region.ready .any ops listed=[i])(hi:ops[i]?=some o)(h:TL X ops V σ [o] (DK X ops k V0 fuel listed i Q)):TD X ops k V0 (fuel+1) listed V σ Q :=
 d_all [i] hr rfl ⟨by rw [hi]; exact h,trivial⟩
theorem q_draw {i:Nat}(hS:∀ w,St X.C w V→St X.C w V0)(h:TD X ops k V0 fuel (listed.setIfInBounds i true) V σ Q):TQ X V σ .normal (DK X ops k V0 fuel listed i Q) :=
 fun w s a h1 h2 h3 h4=>⟨fun _ _=>hS w s,h a w h1 h2 h3 h4 s⟩
theorem q_last {i:Nat}(hi:Nat.blt i k=false)(h:TD X ops k V0 fuel (listed.setIfInBounds i true) V σ Q):TQ X V σ .normal (DK X ops k V0 fuel listed i Q) :=
 fun w s a h1 h2 h3 h4=>⟨fun h=>(by rw [hi] at h; cases h),h a w h1 h2 h3 h4 s⟩
end
end Go.Pg
