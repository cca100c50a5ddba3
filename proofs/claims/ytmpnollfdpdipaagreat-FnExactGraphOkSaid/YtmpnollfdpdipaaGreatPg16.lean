import Derived.Test.YtmpnollfdpdipaaGreatPg15
set_option linter.unusedVariables false
set_option linter.unusedSimpArgs false
namespace Go.Pg
def shiftN (i j:Nat):Nat:=cond (Nat.blt i j) (j - 1) j
def selB:Nat→List Nat→Bool
 | _,[]=>true
 | n,i::is=>Nat.blt i n&&is.all (fun j=>!Nat.beq i j)&&selB n is
theorem lk_rm:∀ (A:List HP) (i j:Nat),i≠j→lk (rm A i) (shiftN i j)=lk A j:=by
 intro A
 induction A with
 | nil=>intro i j _; cases i<;>rfl
 | cons p A ih =>
  intro i j hne
  cases i with
  | zero =>
   cases j with
   | zero=>exact absurd rfl hne
   | succ j=>rfl
  | succ i =>
   cases j with
   | zero =>
    have:shiftN (i+1) 0=0:=by simp [shiftN,Nat.blt]
    rw [this]; rfl
   | succ j =>
    have hs:shiftN (i+1) (j+1)=shiftN i j+1:=by
     have hb:Nat.blt (i+1) (j+1)=Nat.blt i j:=by
      cases h:Nat.blt i j with
      | true=>have:=Nat.le_of_ble_eq_true h; exact Nat.ble_eq_true_of_le (by omega)
      | false =>
       cases h2:Nat.blt (i+1) (j+1) with
       | false=>rfl
       | true =>
        have:=Nat.le_of_ble_eq_true h2
        have h3:Nat.blt i j=true:=Nat.ble_eq_true_of_le (by omega)
        rw [h3] at h; cases h
     unfold shiftN
     rw [hb]
     cases h:Nat.blt i j with
     | true=>have:=Nat.le_of_ble_eq_true h; show j+1 - 1=j - 1+1; omega
     | false=>rfl
    rw [hs]
    exact ih i j (fun e=>hne (by rw [e]))
theorem star_sel {I:Hp}:∀ (n:Nat) (is:List Nat) (A:List HP) (h:Hp),is.length≤n→(∀ i∈is,i<A.length)→is.Nodup→star A I h→∃ h',Hp.le h' h∧star (is.map (lk A)) I h':=by
 intro n
 induction n with
 | zero =>
  intro is A h hn _ _ _
  have:is=[]:=List.eq_nil_of_length_eq_zero (by omega)
  subst this
  exact ⟨Hp.none,Hp.none_le _,rfl⟩
 | succ n ih =>
  intro is A h hn hlt hnd s
  cases is with
  | nil=>exact ⟨Hp.none,Hp.none_le _,rfl⟩
  | cons i is =>
   obtain ⟨h1,h2,j,a,b⟩:=star_take i s
   have hnd':=List.nodup_cons.1 hnd
   have hi:=hlt i (by simp)
   have hlen:(rm A i).length+1=A.length:=by
    clear ih hn hlt hnd hnd' s j a b h1 h2
    induction A generalizing i with
    | nil=>cases hi
    | cons p A ihA =>
     cases i with
     | zero=>rfl
     | succ i=>exact congrArg (·+1) (ihA i (by simpa using hi))
   have hsh:∀ x∈is,x≠i:=fun x hx e=>hnd'.1 (e▸hx)
   obtain ⟨h',l,s'⟩:=ih (is.map (shiftN i)) (rm A i) h2 (by simp at hn ⊢; omega) (by
    intro x hx
    obtain ⟨y,hy,rfl⟩:=List.mem_map.1 hx
    have h3:=hlt y (by simp [hy])
    have h4:=hsh y hy
    unfold shiftN
    cases hb:Nat.blt i y with
    | true=>have:=Nat.le_of_ble_eq_true hb; show y - 1<_; omega
    | false =>
     have:¬ i<y:=fun h5=>by
      have h6:Nat.blt i y=true:=Nat.ble_eq_true_of_le h5
      rw [h6] at hb; cases hb
     show y<_
     omega) (by
    unfold List.Nodup
    rw [List.pairwise_map]
    refine List.Pairwise.imp_of_mem (fun {x y} hx hy hne=>?_) hnd'.2
    have h3:=hsh x hx
    have h4:=hsh y hy
    intro e
    unfold shiftN at e
    cases hb:Nat.blt i x<;>cases hc:Nat.blt i y<;>rw [hb,hc] at e
    ·exact hne e
    ·have:=Nat.le_of_ble_eq_true hc
     have hx':¬ i<x:=fun h5=>by
      have h6:Nat.blt i x=true:=Nat.ble_eq_true_of_le h5
      rw [h6] at hb; cases hb
     have e:x=y - 1:=e
     omega
    ·have:=Nat.le_of_ble_eq_true hb
     have hx':¬ i<y:=fun h5=>by
      have h6:Nat.blt i y=true:=Nat.ble_eq_true_of_le h5
      rw [h6] at hc; cases hc
     have e:x - 1=y:=e
     omega
    ·have:=Nat.le_of_ble_eq_true hb
     have:=Nat.le_of_ble_eq_true hc
     have e:x - 1=y - 1:=e
     omega) b
   have he:(is.map (shiftN i)).map (lk (rm A i))=is.map (lk A):=by
    rw [List.map_map]
    refine List.map_congr_left fun x hx=>?_
    exact lk_rm A i x (fun e=>hsh x hx e.symm)
   rw [he] at s'
   obtain ⟨g,jg⟩:=Join.of_disj (h1:=h1) (h2:=h') (fun b=>by
    rcases j.disj b with f | f
    ·exact .inl f
    ·refine .inr ?_
     cases hq:h' b with
     | none=>rfl
     | some o=>rw [l b o hq] at f; cases f)
   refine ⟨g,fun b o e=>?_,h1,h',jg,a,s'⟩
   rcases jg.cases e with ⟨e,_⟩|⟨e,_⟩
   ·exact j.left b o e
   ·exact j.right b o (l b o e)
theorem selB_spec:∀ (n:Nat) (is:List Nat),selB n is=true→(∀ i∈is,i<n)∧is.Nodup:=by
 intro n is
 induction is with
 | nil=>intro _; exact ⟨fun _ h=>(by cases h),List.nodup_nil⟩
 | cons i is ih =>
  intro h
  simp only [selB,Bool.and_eq_true,List.all_eq_true,Bool.not_eq_true'] at h
  obtain ⟨⟨h1,h2⟩,h3⟩:=h
  obtain ⟨g1,g2⟩:=ih h3
  refine ⟨fun x hx=>?_,List.nodup_cons.2 ⟨fun hm=>?_,g2⟩⟩
  ·rcases List.mem_cons.1 hx with rfl | hx
   ·exact Nat.lt_of_lt_of_le (Nat.lt_succ_self _) (Nat.le_of_ble_eq_true h1)
   ·exact g1 x hx
  ·have:=h2 i hm
   rw [show Nat.beq i i=true from Nat.beq_refl i] at this
   cases this
theorem tk_len:∀ (n:Nat) (V:List HP),n≤V.length→(tk n V).length=n:=by
 intro n
 induction n with
 | zero=>intro V _; rfl
 | succ n ih =>
  intro V h
  cases V with
  | nil=>simp at h
  | cons p V=>exact congrArg (·+1) (ih V (by simpa using h))
theorem lk_tk:∀ (n:Nat) (V:List HP) (i:Nat),i<n→lk (tk n V) i=lk V i:=by
 intro n
 induction n with
 | zero=>intro V i h; cases h
 | succ n ih =>
  intro V i h
  cases V with
  | nil=>rfl
  | cons p V =>
   cases i with
   | zero=>rfl
   | succ i=>exact ih V i (by omega)
def geB:Nat→List HP→Bool
 | 0,_=>true
 | _+1,[]=>false
 | n+1,_::V=>geB n V
theorem geB_spec:∀ (n:Nat) (V:List HP),geB n V=true→n≤V.length:=by
 intro n
 induction n with
 | zero=>intro V _; exact Nat.zero_le _
 | succ n ih =>
  intro V h
  cases V with
  | nil=>cases h
  | cons p V=>exact Nat.succ_le_succ (ih V h)
theorem St.sel {C w:World}{V:List HP}(s:St C w V)(n:Nat)(is:List Nat)(h:selB n is=true)(hn:geB n V=true):St C w (is.map (lk V)++dp n V):=by
 obtain ⟨h1,h2⟩:=selB_spec n is h
 have hn:=geB_spec n V hn
 rw [← tk_dp n V] at s
 obtain ⟨a,I,hh,g,j,l,s⟩:=s
 obtain ⟨g1,g2,j',sA,sB⟩:=star_app.1 s
 obtain ⟨g1',l1,sS⟩:=star_sel is.length is (tk n V) g1 (Nat.le_refl _) (fun i hi=>by rw [tk_len n V hn]; exact h1 i hi) h2 sA
 have he:is.map (lk (tk n V))=is.map (lk V):=List.map_congr_left fun i hi=>lk_tk n V i (h1 i hi)
 rw [he] at sS
 obtain ⟨m,jm⟩:=Join.of_disj (h1:=g1') (h2:=g2) (fun b=>by
  rcases j'.disj b with f | f
  ·refine .inl ?_
   cases hq:g1' b with
   | none=>rfl
   | some o=>rw [l1 b o hq] at f; cases f
  ·exact .inr f)
 have lm:Hp.le m hh:=fun b o e=>by
  rcases jm.cases e with ⟨e,_⟩|⟨e,_⟩
  ·exact j'.left b o (l1 b o e)
  ·exact j'.right b o e
 obtain ⟨G,jG⟩:=Join.of_disj (h1:=I) (h2:=m) (fun b=>by
  rcases j.disj b with f | f
  ·exact .inl f
  ·refine .inr ?_
   cases hq:m b with
   | none=>rfl
   | some o=>rw [lm b o hq] at f; cases f)
 refine ⟨a,I,m,G,jG,fun b o e=>?_,star_app.2 ⟨g1',g2,jm,sS,sB⟩⟩
 rcases jG.cases e with ⟨e,_⟩|⟨e,_⟩
 ·exact l b o (j.left b o e)
 ·exact l b o (j.right b o (lm b o e))
section
variable {X:Cx}{V:List HP}{σ:Env}{Q:Exit→Env→World→Prop}{cd:Code}{α:Type}
theorem c_nilx {K:Kind α}{a:Option Addr}{n c:Nat}{xs:List α}(i:Nat)(hV:Sees (lk V i) K (.slice a n c) xs)(ha:a.isNone=true)(h:xs=[]→TC X V σ cd Q):TC X V σ cd Q:=by
 intro w s
 obtain ⟨J,lw,A,c',hv,h2,h3,h4⟩:=s.reads hV
 refine h ?_ w s
 cases xs with
 | nil=>rfl
 | cons x xs =>
  obtain ⟨g,o,hA,_⟩:=h4 (by simp)
  injection hv with e1 _ _
  rw [e1,hA] at ha
  cases ha
end
end Go.Pg
