import Derived.Test.YtmpnollfdpdipaaGreatPg1
set_option linter.unusedVariables false
set_option linter.unusedSimpArgs false
namespace Go.Pg
abbrev Hp:=Nat→Option Obj
def Hp.none:Hp:=fun _=>Option.none
def Hp.one (b:Nat)(o:Obj):Hp:=fun k=>if k=b then some o else Option.none
def Hp.le (h g:Hp):Prop:=∀ b o,h b=some o→g b=some o
def Join (h1 h2 g:Hp):Prop:=∀ b,(h1 b=Option.none∧g b=h2 b)∨(h2 b=Option.none∧g b=h1 b)
theorem Hp.le_refl (h:Hp):Hp.le h h:=fun _ _ e=>e
theorem Hp.le_trans {f g h:Hp}(a:Hp.le f g)(b:Hp.le g h):Hp.le f h:=fun _ _ e=>b _ _ (a _ _ e)
theorem Hp.none_le (h:Hp):Hp.le Hp.none h:=fun _ _ e=>by cases e
theorem Join.symm {h1 h2 g:Hp}(j:Join h1 h2 g):Join h2 h1 g:=fun b=>(j b).symm
theorem Join.none (h:Hp):Join Hp.none h h:=fun b=>.inl ⟨rfl,rfl⟩
theorem Join.none' (h:Hp):Join h Hp.none h:=(Join.none h).symm
theorem Join.eq_of_none {h g:Hp}(j:Join Hp.none h g):g=h:=by
 funext b
 rcases j b with ⟨_,e⟩|⟨e1,e⟩
 ·exact e
 ·rw [e,e1]; rfl
theorem Join.left {h1 h2 g:Hp}(j:Join h1 h2 g):Hp.le h1 g:=fun b o e=>by
 rcases j b with ⟨e1,_⟩|⟨_,e2⟩
 ·rw [e1] at e; cases e
 ·rw [e2]; exact e
theorem Join.right {h1 h2 g:Hp}(j:Join h1 h2 g):Hp.le h2 g:=j.symm.left
theorem Join.of_disj {h1 h2:Hp}(d:∀ b,h1 b=Option.none∨h2 b=Option.none):∃ g,Join h1 h2 g:=by
 refine ⟨fun b=>(h1 b).or (h2 b),fun b=>?_⟩
 rcases d b with e | e
 ·exact .inl ⟨e,by simp [e]⟩
 ·refine .inr ⟨e,by simp [e]⟩
theorem Join.disj {h1 h2 g:Hp}(j:Join h1 h2 g)(b:Nat):h1 b=Option.none∨h2 b=Option.none:=by
 rcases j b with ⟨e,_⟩|⟨e,_⟩
 ·exact .inl e
 ·exact .inr e
theorem Join.cases {h1 h2 g:Hp}(j:Join h1 h2 g){b:Nat}{o:Obj}(e:g b=some o):(h1 b=some o∧h2 b=Option.none)∨(h2 b=some o∧h1 b=Option.none):=by
 rcases j b with ⟨a,c⟩|⟨a,c⟩
 ·exact .inr ⟨c▸e,a⟩
 ·exact .inl ⟨c▸e,a⟩
theorem Join.is_none {h1 h2 g:Hp}(j:Join h1 h2 g)(b:Nat):g b=Option.none↔h1 b=Option.none∧h2 b=Option.none:=by
 rcases j b with ⟨a,c⟩|⟨a,c⟩
 ·rw [c]; exact ⟨fun h=>⟨a,h⟩,fun h=>h.2⟩
 ·rw [c]; exact ⟨fun h=>⟨h,a⟩,fun h=>h.1⟩
theorem Join.assoc {a b c ab g:Hp}(j1:Join a b ab)(j2:Join ab c g):∃ bc,Join b c bc∧Join a bc g:=by
 obtain ⟨bc,hbc⟩:=Join.of_disj (h1:=b) (h2:=c) (fun k=>by
  rcases j2.disj k with e | e
  ·exact .inl ((j1.is_none k).1 e).2
  ·exact .inr e)
 refine ⟨bc,hbc,fun k=>?_⟩
 rcases j1 k with ⟨e1,e2⟩|⟨e1,e2⟩
 ·refine .inl ⟨e1,?_⟩
  rcases j2 k with ⟨f1,f2⟩|⟨f1,f2⟩
  ·rw [f2]
   rcases hbc k with ⟨g1,g2⟩|⟨g1,g2⟩
   ·exact g2.symm
   ·rw [g1,g2]; rw [e2] at f1; exact f1.symm
  ·rw [f2,e2]
   rcases hbc k with ⟨g1,g2⟩|⟨g1,g2⟩
   ·rw [g2,f1]; exact g1
   ·exact g2.symm
 ·rcases j2 k with ⟨f1,f2⟩|⟨f1,f2⟩
  ·rw [e2] at f1
   refine .inl ⟨f1,?_⟩
   rw [f2]
   rcases hbc k with ⟨g1,g2⟩|⟨g1,g2⟩
   ·exact g2.symm
   ·rw [g1,g2,e1]
  ·refine .inr ⟨?_,by rw [f2,e2]⟩
   rcases hbc k with ⟨g1,g2⟩|⟨g1,g2⟩
   ·rw [g2,f1]
   ·rw [g2,e1]
theorem Join.assoc' {a b c bc g:Hp}(j1:Join b c bc)(j2:Join a bc g):∃ ab,Join a b ab∧Join ab c g:=by
 obtain ⟨ba,h1,h2⟩:=Join.assoc j1.symm j2.symm
 exact ⟨ba,h1.symm,h2.symm⟩
structure HP where
 p:Hp→Hp→Prop
 mono:∀ {I J h},Hp.le I J→p I h→p J h
def emp:HP:=⟨fun _ h=>h=Hp.none,fun _ e=>e⟩
def star:List HP→Hp→Hp→Prop
 | [],_,h=>h=Hp.none
 | q::V,I,h=>∃ h1 h2,Join h1 h2 h∧q.p I h1∧star V I h2
theorem star_mono {V:List HP}{I J h:Hp}(l:Hp.le I J)(s:star V I h):star V J h:=by
 induction V generalizing h with
 | nil=>exact s
 | cons q V ih =>
  obtain ⟨h1,h2,j,a,b⟩:=s
  exact ⟨h1,h2,j,q.mono l a,ih b⟩
def lk:List HP→Nat→HP
 | [],_=>emp
 | q::_,0=>q
 | _::V,i+1=>lk V i
def stt:List HP→Nat→HP→List HP
 | [],_,q=>[q]
 | _::V,0,q=>q::V
 | p::V,i+1,q=>p::stt V i q
def rm:List HP→Nat→List HP
 | [],_=>[]
 | _::V,0=>V
 | p::V,i+1=>p::rm V i
def mv (V:List HP)(i:Nat):List HP:=lk V i::rm V i
theorem star_take {V:List HP}{I h:Hp}(i:Nat)(s:star V I h):∃ h1 h2,Join h1 h2 h∧(lk V i).p I h1∧star (rm V i) I h2:=by
 induction V generalizing h i with
 | nil=>exact ⟨Hp.none,h,Join.none h,rfl,s⟩
 | cons q V ih =>
  cases i with
  | zero=>exact s
  | succ i =>
   obtain ⟨h1,h2,j,a,b⟩:=s
   obtain ⟨g1,g2,j',c,d⟩:=ih i b
   obtain ⟨k,k1,k2⟩:=Join.assoc' j' j
   obtain ⟨m,m1,m2⟩:=Join.assoc k1.symm k2
   exact ⟨g1,m,m2,c,h1,g2,m1,a,d⟩
theorem star_put {V:List HP}{I h h1 h2:Hp}(i:Nat){q:HP}(j:Join h1 h2 h)(a:q.p I h1)(b:star (rm V i) I h2):star (stt V i q) I h:=by
 induction V generalizing h h2 i with
 | nil=>exact ⟨h1,h2,j,a,b⟩
 | cons p V ih =>
  cases i with
  | zero=>exact ⟨h1,h2,j,a,b⟩
  | succ i =>
   obtain ⟨g1,g2,j',c,d⟩:=b
   obtain ⟨k,k1,k2⟩:=Join.assoc' j' j
   obtain ⟨m,m1,m2⟩:=Join.assoc k1.symm k2
   exact ⟨g1,m,m2,c,ih i m1 d⟩
theorem star_mv {V:List HP}{I h:Hp}(i:Nat)(s:star V I h):star (mv V i) I h:=star_take i s
theorem star_app {A V:List HP}{I h:Hp}:star (A++V) I h↔∃ h1 h2,Join h1 h2 h∧star A I h1∧star V I h2:=by
 induction A generalizing h with
 | nil=>exact ⟨fun s=>⟨Hp.none,h,Join.none h,rfl,s⟩,fun ⟨h1,h2,j,a,b⟩=>by cases a; rw [j.eq_of_none]; exact b⟩
 | cons q A ih =>
  constructor
  ·rintro ⟨h1,h2,j,a,b⟩
   obtain ⟨g1,g2,j',c,d⟩:=ih.1 b
   obtain ⟨k,k1,k2⟩:=Join.assoc' j' j
   exact ⟨k,g2,k2,⟨h1,g1,k1,a,c⟩,d⟩
  ·rintro ⟨h1,h2,j,⟨g1,g2,j',a,b⟩,c⟩
   obtain ⟨k,k1,k2⟩:=Join.assoc j' j
   exact ⟨g1,k,k2,a,ih.2 ⟨g2,h2,k1,b,c⟩⟩
def Le (g:Hp)(w:World):Prop:=∀ b o,g b=some o→w.heap[b]?=some o
structure Same (C w:World):Prop where
 os:w.os=C.os
 tape:w.tape=C.tape
 output:w.output=C.output
def St (C w:World)(V:List HP):Prop:=Same C w∧∃ I h g,Join I h g∧Le g w∧star V I h
theorem Le.lt {g:Hp}{w:World}(l:Le g w){b:Nat}(h:g b≠Option.none):b<w.heap.size:=by
 cases e:g b with
 | none=>exact absurd e h
 | some o=>exact (Array.getElem?_eq_some_iff.1 (l b o e)).1
theorem Le.mono {g g':Hp}{w:World}(l:Le g w)(h:Hp.le g' g):Le g' w:=fun b o e=>l b o (h b o e)
theorem Le.alloc {g:Hp}{w:World}(l:Le g w)(o:Obj):Le g (w.alloc o):=fun b o' e=>by
 have hlt:=l.lt (b:=b) (by rw [e]; exact fun h=>by cases h)
 show (w.heap.push o)[b]?=some o'
 rw [Array.getElem?_push,if_neg (Nat.ne_of_lt hlt)]
 exact l b o' e
theorem Same.alloc {C w:World}(s:Same C w)(o:Obj):Same C (w.alloc o):=⟨s.os,s.tape,s.output⟩
theorem Same.setCell {C w:World}(s:Same C w)(a:Addr)(v:Value):Same C (w.setCell a v):=⟨s.os,s.tape,s.output⟩
theorem Same.drew {C w:World}(s:Same C w):Same C w.drew:=⟨s.os,s.tape,s.output⟩
theorem St.mv {C w:World}{V:List HP}(s:St C w V)(i:Nat):St C w (mv V i):=by
 obtain ⟨a,I,h,g,j,l,s⟩:=s
 exact ⟨a,I,h,g,j,l,star_mv i s⟩
theorem St.rm {C w:World}{V:List HP}(s:St C w V)(i:Nat):St C w (rm V i):=by
 obtain ⟨a,I,h,g,j,l,s⟩:=s
 obtain ⟨h1,h2,j',_,s'⟩:=star_take i s
 obtain ⟨k,k1,k2⟩:=Join.assoc' j' j
 obtain ⟨m,m1,m2⟩:=Join.assoc k1.symm k2
 exact ⟨a,I,h2,m,m1,l.mono m2.right,s'⟩
theorem St.drew {C w:World}{V:List HP}(s:St C w V):St C w.drew V:=by
 obtain ⟨a,I,h,g,j,l,s⟩:=s
 exact ⟨a.drew,I,h,g,j,l,s⟩
theorem St.look {C w:World}{V:List HP}(s:St C w V)(i:Nat):∃ I h,(lk V i).p I h∧Le I w∧Le h w∧(∀ b,I b=Option.none∨h b=Option.none):=by
 obtain ⟨a,I,h,g,j,l,s⟩:=s
 obtain ⟨h1,h2,j',c,s'⟩:=star_take i s
 exact ⟨I,h1,c,l.mono j.left,l.mono (Hp.le_trans j'.left j.right),fun b=>by
  rcases j.disj b with e | e
  ·exact .inl e
  ·exact .inr ((j'.is_none b).1 e).1⟩
theorem St.turn {C w w':World}{V:List HP}(s:St C w V)(i:Nat){q:HP}(hs:Same C w→Same C w')
  (f:∀ I h,(lk V i).p I h→Le I w→Le h w→∃ h',q.p I h'∧Le h' w'∧(∀ b,h' b≠Option.none→h b≠Option.none∨w.heap.size≤b)∧∀ b o,h b=Option.none→w.heap[b]?=some o→w'.heap[b]?=some o) :
  St C w' (stt V i q):=by
 obtain ⟨a,I,h,g,j,l,s⟩:=s
 obtain ⟨h1,h2,j',c,s'⟩:=star_take i s
 obtain ⟨h',hq,hl,hn,hk⟩:=f I h1 c (l.mono j.left) (l.mono (Hp.le_trans j'.left j.right))
 have old:∀ b,h' b≠Option.none→I b=Option.none∧h2 b=Option.none:=by
  intro b hb
  rcases hn b hb with e | e
  ·refine ⟨?_,?_⟩
   ·rcases j.disj b with f | f
    ·exact f
    ·exact absurd ((j'.is_none b).1 f).1 e
   ·rcases j'.disj b with f | f
    ·exact absurd f e
    ·exact f
  ·have:g b=Option.none:=by
    cases hg:g b with
    | none=>rfl
    | some o =>
     have:=(l.lt (b:=b) (by rw [hg]; exact fun h=>by cases h))
     omega
   have:=(j.is_none b).1 this
   exact ⟨this.1,((j'.is_none b).1 this.2).2⟩
 obtain ⟨m,hm⟩:=Join.of_disj (h1:=h') (h2:=h2) (fun b=>by
  by_cases e:h' b=Option.none
  ·exact .inl e
  ·exact .inr (old b e).2)
 obtain ⟨g',hg'⟩:=Join.of_disj (h1:=I) (h2:=m) (fun b=>by
  by_cases e:h' b=Option.none
  ·rcases j.disj b with f | f
   ·exact .inl f
   ·exact .inr ((hm.is_none b).2 ⟨e,((j'.is_none b).1 f).2⟩)
  ·exact .inl (old b e).1)
 refine ⟨hs a,I,m,g',hg',?_,star_put i hm hq s'⟩
 intro b o e
 rcases hg'.cases e with ⟨e1,e2⟩|⟨e1,e2⟩
 ·refine hk b o ?_ (l b o (j.left b o e1))
  rcases j.disj b with f | f
  ·rw [f] at e1; cases e1
  ·exact ((j'.is_none b).1 f).1
 ·rcases hm.cases e1 with ⟨e3,e4⟩|⟨e3,e4⟩
  ·exact hl b o e3
  ·refine hk b o ?_ (l b o (j.right b o (j'.right b o e3)))
   rcases j'.disj b with f | f
   ·exact f
   ·rw [f] at e3; cases e3
theorem St.new {C w w':World}{V:List HP}(s:St C w V){q:HP}(hs:Same C w→Same C w')
  (f:∀ I,Le I w→∃ h',q.p I h'∧Le h' w'∧(∀ b,h' b≠Option.none→w.heap.size≤b)) (hk:∀ (b:Nat) (o:Obj),w.heap[b]?=some o→w'.heap[b]?=some o) :
  St C w' (q::V):=by
 have s0:St C w (emp::V):=by
  obtain ⟨a,I,h,g,j,l,s⟩:=s
  exact ⟨a,I,h,g,j,l,Hp.none,h,Join.none h,rfl,s⟩
 refine St.turn s0 0 hs ?_
 rintro I h e lI _
 obtain ⟨h',a,b,c⟩:=f I lI
 exact ⟨h',a,b,fun k hk'=>.inr (c k hk'),fun b o _ e=>hk b o e⟩
theorem St.imp {C w:World}{A B V:List HP}(s:St C w (A++V))(f:∀ I h,Le I w→Le h w→star A I h→star B I h):St C w (B++V):=by
 obtain ⟨a,I,h,g,j,l,s⟩:=s
 obtain ⟨h1,h2,j',c,d⟩:=star_app.1 s
 exact ⟨a,I,h,g,j,l,star_app.2 ⟨h1,h2,j',f I h1 (l.mono j.left) (l.mono (Hp.le_trans j'.left j.right)) c,d⟩⟩
theorem St.share {C w:World}{p q:HP}{V:List HP}(s:St C w (p::V))(f:∀ I J h,Hp.le I J→Hp.le h J→p.p I h→q.p J Hp.none):St C w (q::V):=by
 obtain ⟨a,I,h,g,j,l,h1,h2,j',c,d⟩:=s
 obtain ⟨k,k1,k2⟩:=Join.assoc' j' j
 exact ⟨a,k,h2,g,k2,l,Hp.none,h2,Join.none h2,f I k h1 k1.left k1.right c,star_mono k1.left d⟩
end Go.Pg
