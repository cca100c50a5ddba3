import Derived.Test.YtoffdamdpmeoiaaGreatDoorPg19
import Derived.Deep.Slices
import Derived.Carry
import Derived.Test.YtoffdamdpmeoiaaGreatDoorPg39
import Derived.Lib.LaidTab
set_option linter.unusedVariables false
namespace Go.Pg
def kM (W:World):Hp:=fun b=>W.heap[b]?
def Rc (P:Program)(t:TypeId){α:Type}(K:Kind α)(C:α→Prop):Prop :=
 ∀ (W:World) (H:Type) (enc:TypeId×Value→H) (fuel:Nat) (cs:List Value) (x:DataW H×List MemPlace),DataW.trod enc P W 0 (fun _=>true) true fuel t cs=some x→∃ a:α,K.rd (kM W) a cs∧C a
def nW (P:Program)(t i:Nat):Option (TypeId×Nat×Nat):=match P.underlying t with
 | some (.struct fs)=>(fs[i]?).map fun f=>(f.type,f.offset,P.cellsOf f.type)
 | _=>none
def C8 (P:Program)(t:Nat)(k:IntKind):Bool:=match P.underlying t with
 | some (.int k')=>k'==k
 | _=>false
section
variable {P:Program}{t:TypeId}{α:Type}
theorem zK {k:IntKind}(h:C8 P t k=true):Rc P t (Kind.int k) (fun _=>True):=by
 intro W H enc fuel cs x a
 have b:P.underlying t=some (.int k):=by
  unfold C8 at h
  split at h
  ·rename_i i e; rw [e,eq_of_beq h]
  ·cases h
 cases fuel with
 | zero=>simp [DataW.trod] at a
 | succ n =>
  unfold DataW.trod at a
  rw [b] at a
  split at a<;>simp_all
  exact ⟨_,rfl⟩
theorem zL (h:P.underlying t=some .string):Rc P t Kind.str (fun s=>s.length≤maxLen):=by
 intro W H enc fuel cs x a
 cases fuel with
 | zero=>simp [DataW.trod] at a
 | succ n =>
  unfold DataW.trod at a
  rw [h] at a
  split at a
  all_goals first | (cases a; done) | skip
  case h_4 s _ =>
   have b:s.size≤maxLen:=by
    split at a
    ·assumption
    ·cases a
   refine ⟨s.data.toList,rfl,?_⟩
   show s.data.toList.length≤maxLen
   rw [Array.length_toList]; exact b
  all_goals first
   | (rename_i e; cases e; done)
   | (rename_i e _; cases e; done)
   | (rename_i e _ _; cases e; done)
   | (cases a; done)
   | simp_all
theorem xN {K:Kind α}{C:α→Prop}[Inhabited α]{e e':Nat}(ht:mz P t=some e)(he:Rc P e K C)(hc:P.cellsOf e=K.sz)(hs:Nat.blt 0 K.sz=true):Rc P t (Kind.sl e' K) (fun xs=>xs.length≤maxLen∧∀ x∈xs,C x):=by
 intro W H enc fuel cs x U
 have hs:0<K.sz:=Nat.le_of_ble_eq_true hs
 rcases Deep.open_slice (js ht) U with ⟨rfl,_⟩|⟨a,r,G,m,n,D,Pl,rfl,_,hl,hm,M,_,I⟩
 ·exact ⟨[],⟨_,rfl,none,0,rfl,Nat.le_refl _,Nat.zero_le _,fun h=>absurd h (Nat.lt_irrefl _)⟩,Nat.zero_le _,fun x h=>by cases h⟩
 ·simp only [if_true] at M
  have B:∀ i,∃ y:α,i<r→C y∧∃ l,K.rd (kM W) y l∧∀ q u,l[q]?=some u→W.cell? ((a.add (i*P.cellsOf e)).add q)=some u:=by
   intro i
   by_cases L:i<r
   ·obtain ⟨l,h1,h2⟩:=I i (by omega)
    obtain ⟨y,F,hC⟩:=he W H enc _ _ _ h2
    refine ⟨y,fun _=>⟨hC,l,F,fun q u hq=>?_⟩⟩
    obtain ⟨_,s,E⟩:=World.cells?_some h1
    rw [E q (by rw [← s]; exact (List.getElem?_eq_some_iff.1 hq).1),hq]
   ·exact ⟨default,fun h=>absurd h L⟩
  obtain ⟨g,J⟩:=Classical.axiomOfChoice B
  refine ⟨(List.range r).map g,⟨_,rfl,some a,G,by simp,by simpa using hl,by simp; omega,fun O=>?_⟩,by simp; omega,fun x U=>?_⟩
  rotate_left
  ·obtain ⟨i,L,rfl⟩:=List.mem_map.1 U
   exact (J i (List.mem_range.1 L)).1
  have O:0<r:=by simpa using O
  obtain ⟨b,o,sp⟩:=a
  have T:sp=none:=by
   obtain ⟨_,l,h1,h2⟩:=J 0 O
   have s:=K.rd_len h1
   have:=h2 0 _ (List.getElem?_eq_getElem (by omega))
   simpa [Addr.add] using World.cell?_spot this
  subst T
  refine ⟨b,o,rfl,fun j y F=>?_⟩
  have Z:j<r:=by
   have:=(List.getElem?_eq_some_iff.1 F).1
   simpa using this
  have Y:y=g j:=by simpa [Z] using F.symm
  subst Y
  obtain ⟨_,l,h1,h2⟩:=J j Z
  refine ⟨l,h1,fun i u hu=>?_⟩
  have:=h2 i u hu
  rw [gH,gH,hc] at this
  unfold World.cell? at this
  unfold iP kM
  simp only [Option.isSome_none,Bool.false_eq_true,if_false] at this
  cases hb:W.heap[b]? with
  | none=>rw [hb] at this; cases this
  | some ob =>
   rw [hb] at this
   cases ob with
   | cells c ty fr=>exact this
   | _=>cases this
theorem Rc.mono {K:Kind α}{C D:α→Prop}(h:Rc P t K C)(b:∀ a,C a→D a):Rc P t K D:=fun W H enc fuel cs x e=>let ⟨a,p,q⟩:=h W H enc fuel cs x e; ⟨a,p,b a q⟩
theorem kz {P:Program}{t i ty b sz:Nat}(h:nW P t i=some (ty,b,sz)){W:World}{H:Type}{enc:TypeId×Value→H}{fuel:Nat}{cs:List Value}{x:DataW H×List MemPlace}(r:DataW.trod enc P W 0 (fun _=>true) true fuel t cs=some x) :
  cs.length=P.cellsOf t∧∃ n y,DataW.trod enc P W 0 (fun _=>true) true n ty ((cs.drop b).take sz)=some y:=by
 unfold nW at h
 split at h
 ·rename_i fs q
  obtain ⟨xs,n,_,rfl,l,a,e⟩:=DataW.trod_struct q r
  cases hfi:fs[i]? with
  | none=>rw [hfi] at h; cases h
  | some f =>
   rw [hfi] at h
   simp only [Option.map_some,Option.some.injEq,Prod.mk.injEq] at h
   obtain ⟨rfl,rfl,rfl⟩:=h
   have j:i<fs.size:=(Array.getElem?_eq_some_iff.1 hfi).1
   have h2:=e i f (by simpa using hfi)
   refine ⟨l,n,xs[i]'(by rw [a]; exact j),?_⟩
   rw [h2]
   simp
 ·cases h
theorem zX {cs:List Value}(o s:Nat):cs.drop o=(cs.drop o).take s++cs.drop (o+s):=by
 rw [← List.drop_drop,List.take_append_drop]
def zM (W:World):HP:=⟨fun I h=>h=Hp.none∧Hp.le (kM W) I,fun l e=>⟨e.1,Hp.le_trans e.2 l⟩⟩
theorem zN {W:World}{a:List HP}(h:∀ q∈a,q.p (kM W) Hp.none):St W W (a++[zM W]):=by
 refine ⟨⟨rfl,rfl,rfl⟩,kM W,Hp.none,kM W,(Join.none _).symm,fun b o e=>e,?_⟩
 have:∀ a:List HP,(∀ q∈a,q.p (kM W) Hp.none)→fH a (kM W) Hp.none:=by
  intro a
  induction a with
  | nil=>intro _; rfl
  | cons q a ih=>intro h; exact ⟨Hp.none,Hp.none,Join.none _,h q (by simp),ih (fun p j=>h p (by simp [j]))⟩
 exact this _ (by
  intro q i
  rcases List.mem_append.1 i with i | i
  ·exact h q i
  ·rw [List.mem_singleton.1 i]; exact ⟨rfl,Hp.le_refl _⟩)
theorem th {W a:World}{V:List HP}(s:St W a (V++[zM W])):RowKit.Below W.heap.size W a:=by
 obtain ⟨r,I,h,g,j,l,st⟩:=s
 obtain ⟨h1,h2,E,G,B,D,F,⟨rfl,i⟩,_⟩:=cY.1 st
 have u:∀ b o,W.heap[b]?=some o→a.heap[b]?=some o:=fun b o e=>l b o (j.left b o (i b o e))
 refine ⟨r.os,r.tape,r.output,?_,fun k hk=>?_⟩
 ·refine Nat.le_of_not_lt fun q=>?_
  have hk:a.heap.size<W.heap.size:=q
  have:=u a.heap.size _ (Array.getElem?_eq_getElem hk)
  have:=(Array.getElem?_eq_some_iff.1 this).1
  omega
 ·rw [u k _ (Array.getElem?_eq_getElem hk),Array.getElem?_eq_getElem hk]
theorem C9 {W:World}{g k:Nat}{v:Value}(h:W.cell? ⟨g,k,none⟩=some v):(cl g k [v]).p (kM W) Hp.none:=by
 refine ⟨rfl,fun i u a=>?_⟩
 cases i with
 | succ i=>simp at a
 | zero =>
  obtain rfl:v=u:=by simpa using a
  unfold World.cell? at h
  unfold iP kM
  simp only [Option.isSome_none,Bool.false_eq_true,if_false] at h
  cases hb:W.heap[g]? with
  | none=>rw [hb] at h; cases h
  | some ob =>
   rw [hb] at h
   cases ob with
   | cells c ty fr=>exact h
   | _=>cases h
end
theorem vo {W:World}{g:Nat}{cs:List Value}(h:∀ i u,cs[i]?=some u→W.cell? ⟨g,i,none⟩=some u):(cl g 0 cs).p (kM W) Hp.none:=by
 refine ⟨rfl,fun i u b=>?_⟩
 have a:=h i u b
 unfold World.cell? at a
 unfold iP kM
 simp only [Option.isSome_none,Bool.false_eq_true,if_false] at a
 cases hb:W.heap[g]? with
 | none=>rw [hb] at a; cases a
 | some ob =>
  rw [hb] at a
  cases ob with
  | cells c ty fr=>rw [Nat.zero_add]; exact a
  | _=>cases a
theorem Ca {W:World}{g g':Nat}{m:Int}{tab:List Nat}(h1:W.cell? ⟨g,0,none⟩=some (.int .i64 m))(h2:∀ i,i<tab.length→W.cell? ⟨g',i,none⟩=some (.int .u8 ((tab.map Int.ofNat).getD i 0))):(gx g m g' tab).p (kM W) Hp.none:=by
 refine ⟨C9 h1,vo fun i u b=>?_⟩
 have a:i<tab.length:=by
  have:=(List.getElem?_eq_some_iff.1 b).1
  simpa [Ak] using this
 rw [h2 i a,← b]
 simp [Ak,a,List.getD]
open Go.Lib in
theorem rz {P:Program}{W:World}{name:String}{k:IntKind}{zs:List Int}{x:String×DataW Unit}{rest:List (String×DataW Unit)}{g:Nat}{t e:TypeId}{n:Nat}
  (B:P.globalNamed name=some g) (r:(P.globals[g]?).map (·.type)=some t) (D:P.underlying t=some (.array n e)) (u:P.underlying e=some (.int k)) (b:P.cellsOf e=1) (i:P.cellsOf t=n)
  (h:laidMet P (x::(name,tabData k zs)::rest) W):TabIs P W name k zs:=by
 obtain ⟨ps,⟨_,_,_,_,_,_,_,_,_,_,⟨g',E,cs,fuel,p,q,j,l,a,s,_,_⟩,_⟩,_⟩:=h
 obtain rfl:=Option.some.inj (B.symm.trans j)
 obtain rfl:=Option.some.inj (r.symm.trans l)
 unfold TabIs
 rw [a,← cells_of_tab D u b i s]
end Go.Pg
