import Derived.Test.YtmpnollfdpdipaaGreatPg4
set_option linter.unusedVariables false
set_option linter.unusedSimpArgs false
namespace Go.Pg
def nth {α:Type}:List α→Nat→Option α
 | [],_=>none
 | x::_,0=>some x
 | _::l,k+1=>nth l k
theorem nth_eq {α:Type}(l:List α)(k:Nat):nth l k=l[k]?:=by
 induction l generalizing k with
 | nil=>rfl
 | cons x l ih =>
  cases k with
  | zero=>rfl
  | succ k=>simpa [nth] using ih k
theorem ix_get {α:Type}[Inhabited α]{xs:List α}{i:Int}(h0:0≤i)(h1:i<xs.length):xs[i.toNat]?=some (ix xs i):=by
 unfold ix
 have:i.toNat<xs.length:=by omega
 rw [List.getD_eq_getElem?_getD,List.getElem?_eq_getElem this]
 rfl
def bxl (b:Nat)(cs:List Value)(T:Nat):HP:=bx b cs.toArray T
def aggB (P:Program)(T:TypeId):Option Bool:=(P.underlying T).map fun d=>match d with | .struct _ | .array _ _=>true | _=>false
def szB (P:Program)(T:TypeId):Option Nat:=(P.info? T).map (·.size)
def bytesB (P:Program)(T:TypeId):Option Nat:=(P.info? T).map (·.bytes)
def zcB (P:Program)(T:TypeId):Option (List Value):=((P.info? T).bind (·.zero)).map (·.cells.toList)
def slB (P:Program)(T:TypeId):Option TypeId:=match P.underlying T with
 | some (.slice e)=>some e
 | _=>none
def fieldB (P:Program)(S:TypeId)(f:Nat):Option Nat:=match P.underlying S with
 | some (.struct fs)=>match fs[f]? with
  | some fl=>match P.info? fl.type with
   | some i=>if i.size=0 then none else some fl.offset
   | none=>none
  | none=>none
 | _=>none
section
variable {P:Program}{w:World}
theorem run_isAgg {T:TypeId}{b:Bool}(h:aggB P T=some b):(isAgg T).run P w=.ok b w:=by
 unfold aggB at h
 cases hd:P.underlying T with
 | none=>rw [hd] at h; cases h
 | some d =>
  rw [hd] at h
  simp only [Option.map_some,Option.some.injEq] at h
  subst h
  unfold isAgg
  rw [Sem.run_bind,run_underlying hd w]
  cases d<;>rfl
theorem run_sizeOf {T:TypeId}{n:Nat}(h:szB P T=some n):(sizeOf T).run P w=.ok n w:=by
 unfold szB at h
 cases hd:P.info? T with
 | none=>rw [hd] at h; cases h
 | some d =>
  rw [hd] at h
  simp only [Option.map_some,Option.some.injEq] at h
  subst h
  simp [sizeOf,typeInfo,hd]
theorem run_zero {T:TypeId}{cs:List Value}(h:zcB P T=some cs):∃ z,(zeroValue T).run P w=.ok z w∧z.cells=cs.toArray:=by
 unfold zcB at h
 cases hd:P.info? T with
 | none=>rw [hd] at h; cases h
 | some d =>
  rw [hd] at h
  cases hz:d.zero with
  | none=>simp [hz] at h
  | some z =>
   refine ⟨z,by simp [zeroValue,typeInfo,hd,hz],?_⟩
   simp [hz] at h
   rw [← h]
theorem slB_eq {T e:TypeId}(h:slB P T=some e):P.underlying T=some (.slice e):=by
 unfold slB at h
 split at h
 ·rename_i e' he
  simp only [Option.some.injEq] at h
  rw [he,h]
 ·cases h
theorem run_loadVar_one {T:TypeId}{a:Addr}{v:Value}(h:aggB P T=some false)(hc:w.cell? a=some v):(loadVar T a).run P w=.ok v w:=by
 unfold loadVar
 rw [Sem.run_bind,run_isAgg h]
 simp [hc]
theorem run_loadVar_agg {T:TypeId}{a:Addr}{cs:List Value}(h:aggB P T=some true)(hs:szB P T=some cs.length)(hc:∀ j u,cs[j]?=some u→w.cell? (a.add j)=some u) :
  (loadVar T a).run P w=.ok (.agg cs.toArray) w:=by
 unfold loadVar
 rw [Sem.run_bind,run_isAgg h]
 simp [Sem.run_bind,run_sizeOf hs,run_loadCells_list (P:=P) w a cs hc]
theorem add_eq (g k j:Nat):(⟨g,k,none⟩:Addr).add j=⟨g,k+j,none⟩:=by
 unfold Addr.add
 split
 ·rename_i h; subst h; rfl
 ·rfl
end
section
variable {X:Cx}{V:List HP}{σ:Env}{Q:Exit→Env→World→Prop}{ops:Array Oper}{rest:List Oper}
variable {d:Option Nat}{ty:TypeId}{pos:String}{af:Array Edge}{gd:Option (Nat×Bool)}
theorem l_alloc {T:TypeId}{cs:List Value}(hd:dok X.n d=true)(hw:want ops σ ⟨d,.alloc T,ty,pos,af,gd⟩=true)(hz:zcB X.P T=some cs)
  (h:∀ b,TL X ops (bxl b cs T::V) (updo σ d (.pointer (some ⟨b,0,none⟩))) rest Q):TL X ops V σ (⟨d,.alloc T,ty,pos,af,gd⟩::rest) Q:=by
 intro w s
 refine WL_step hd hw ?_
 obtain ⟨z,hz1,hz2⟩:=run_zero (P:=X.P) (w:=w) hz
 have hr:(execOp (ev σ) ⟨d,.alloc T,ty,pos,af,gd⟩).run X.P w=.ok (.value (.pointer (some ⟨w.heap.size,0,none⟩))) (w.alloc (.cells cs.toArray T)):=by
  simp [execOp,Instr.alloc,hz1,newVar,newRow,hz2]
 rw [hr]
 refine h _ _ (St.new s (fun a=>a.alloc _) (fun I _=>⟨_,rfl,?_,?_⟩) ?_)
 ·intro b o e
  simp only [Hp.one] at e
  split at e
  ·rename_i hb
   subst hb
   rw [← Option.some.inj e]
   show (w.heap.push _)[w.heap.size]?=_
   simp
  ·cases e
 ·intro b hb
  simp only [Hp.one] at hb
  split at hb
  ·rename_i e; exact Nat.le_of_eq e.symm
  ·exact absurd rfl hb
 ·intro b o e
  have hlt:=(Array.getElem?_eq_some_iff.1 e).1
  show (w.heap.push _)[b]?=_
  rw [Array.getElem?_push,if_neg (Nat.ne_of_lt hlt)]
  exact e
theorem l_box {T:TypeId}{x:Operand}{cs:List Value}(hd:dok X.n d=true)(hw:want ops σ ⟨d,.box T x,ty,pos,af,gd⟩=true)(hx:(ev σ x).cells.toList=cs)
  (h:∀ b,TL X ops (bxl b cs T::V) (updo σ d (.pointer (some ⟨b,0,none⟩))) rest Q):TL X ops V σ (⟨d,.box T x,ty,pos,af,gd⟩::rest) Q:=by
 intro w s
 refine WL_step hd hw ?_
 have hr:(execOp (ev σ) ⟨d,.box T x,ty,pos,af,gd⟩).run X.P w=.ok (.value (.pointer (some ⟨w.heap.size,0,none⟩))) (w.alloc (.cells cs.toArray T)):=by
  subst hx
  simp [execOp,Instr.box,newVar,newRow]
 rw [hr]
 refine h _ _ (St.new s (fun a=>a.alloc _) (fun I _=>⟨_,rfl,?_,?_⟩) ?_)
 ·intro b o e
  simp only [Hp.one] at e
  split at e
  ·rename_i hb
   subst hb
   rw [← Option.some.inj e]
   show (w.heap.push _)[w.heap.size]?=_
   simp
  ·cases e
 ·intro b hb
  simp only [Hp.one] at hb
  split at hb
  ·rename_i e; exact Nat.le_of_eq e.symm
  ·exact absurd rfl hb
 ·intro b o e
  have hlt:=(Array.getElem?_eq_some_iff.1 e).1
  show (w.heap.push _)[b]?=_
  rw [Array.getElem?_push,if_neg (Nat.ne_of_lt hlt)]
  exact e
theorem look_bx {C w:World}{V:List HP}(s:St C w V)(i:Nat){b:Nat}{cs:List Value}{T:Nat}(hV:lk V i=bxl b cs T):w.heap[b]?=some (.cells cs.toArray T (0,0)):=by
 obtain ⟨I,h,p,_,l,_⟩:=s.look i
 rw [hV] at p
 exact l b _ (by rw [show h=_ from p]; simp [Hp.one])
theorem cell_bx {w:World}{b:Nat}{cs:List Value}{T:Nat}(h:w.heap[b]?=some (.cells cs.toArray T (0,0)))(k:Nat):w.cell? ⟨b,k,none⟩=cs[k]?:=by
 simp [World.cell?,h]
theorem v_load {T:TypeId}{x:Operand}{b k:Nat}{cs:List Value}{T0:Nat}{v:Value}(i:Nat)(ha:aggB X.P T=some false)
  (hV:lk V i=bxl b cs T0) (hx:ev σ x=.pointer (some ⟨b,k,none⟩)) (hc:nth cs k=some v):VO X V σ ⟨d,.load T x,ty,pos,af,gd⟩ v:=by
 intro w s
 have hb:=look_bx s i hV
 simp only [execOp,Instr.loadAt,hx,Instr.sureAddr,Sem.run_bind,Sem.run_pure,Result.andThen_ok,run_loadVar_one ha (show w.cell? ⟨b,k,none⟩=some v by rw [cell_bx hb,← nth_eq]; exact hc)]
theorem v_loads {T:TypeId}{x:Operand}{b k n:Nat}{cs:List Value}{T0:Nat}(i:Nat)(ha:aggB X.P T=some true)(hs:szB X.P T=some n)
  (hV:lk V i=bxl b cs T0) (hx:ev σ x=.pointer (some ⟨b,k,none⟩)) (hn:((cs.drop k).take n).length=n):VO X V σ ⟨d,.load T x,ty,pos,af,gd⟩ (.agg ((cs.drop k).take n).toArray):=by
 intro w s
 have hb:=look_bx s i hV
 ·have:=run_loadVar_agg (P:=X.P) (w:=w) (a:=⟨b,k,none⟩) (cs:=(cs.drop k).take n) ha (by rw [hn]; exact hs) (by
   intro j u hu
   rw [add_eq,cell_bx hb]
   rw [List.getElem?_take] at hu
   split at hu
   ·rw [List.getElem?_drop] at hu; exact hu
   ·cases hu)
  simp only [execOp,Instr.loadAt,hx,Instr.sureAddr,Sem.run_bind,Sem.run_pure,Result.andThen_ok,this]
theorem v_faddr {S:TypeId}{x:Operand}{f fo:Nat}{a:Addr}(hf:fieldB X.P S f=some fo)
  (hx:ev σ x=.pointer (some a)):VO X V σ ⟨d,.fieldAddr S x f,ty,pos,af,gd⟩ (.pointer (some (a.add fo))):=by
 intro w _
 unfold fieldB at hf
 split at hf
 ·rename_i fs hs
  split at hf
  ·rename_i fl hfl
   split at hf
   ·rename_i i hi
    split at hf
    ·cases hf
    ·rename_i hne
     simp only [Option.some.injEq] at hf
     subst hf
     have hsz:(sizeOf fl.type).run X.P w=.ok i.size w:=run_sizeOf (by simp [szB,hi])
     simp [execOp,Instr.fieldAt,run_underlying hs w,hfl,hx,Instr.sureAddr,fieldPlace,Sem.run_bind,hsz,hne]
   ·cases hf
  ·cases hf
 ·cases hf
theorem store_bx {w:World}{P:Program}{b k:Nat}{cs:List Value}{T:Nat}{v:Value}(hb:w.heap[b]?=some (.cells cs.toArray T (0,0)))(hk:k<cs.length)(hv:v.oneCell'=true) :
  (store ⟨b,k,none⟩ v).run P w=.ok () (w.setCell ⟨b,k,none⟩ v):=by
 rw [run_store P w _ v _ hv]
 have:w.cell? ⟨b,k,none⟩=some cs[k]:=by rw [cell_bx hb,List.getElem?_eq_getElem hk]
 simp [this,World.frozen?,hb]
theorem heap_set_same {w:World}{b k:Nat}{c:Array Value}{T:Nat}{fr:Nat×Nat}{v:Value}(hb:w.heap[b]?=some (.cells c T fr)):(w.setCell ⟨b,k,none⟩ v).heap[b]?=some (.cells (c.setIfInBounds k v) T fr):=by
 simp only [World.setCell,Array.getElem?_modify,hb]
 simp
theorem heap_set_other {w:World}{b k j:Nat}{v:Value}(h:j≠b):(w.setCell ⟨b,k,none⟩ v).heap[j]?=w.heap[j]?:=by
 simp only [World.setCell,Array.getElem?_modify]
 rw [if_neg (fun e=>h e.symm)]
theorem run_storeVar_one {P:Program}{w:World}{T:TypeId}{a:Addr}{v:Value}{w':World}(hs:szB P T=some 1)(hv:v.oneCell'=true)(hr:(store a v).run P w=.ok () w'):(storeVar T a v).run P w=.ok () w':=by
 have hc:v.cells=#[v]:=by cases v<;>first | rfl | (simp [Value.oneCell'] at hv)
 unfold storeVar
 rw [Sem.run_bind,run_sizeOf hs]
 have ha:a.add 0=a:=by simp [Addr.add]
 simp [hc,storeCells,Sem.run_bind,ha,hr]
theorem l_store {T:TypeId}{x y:Operand}{b k:Nat}{cs:List Value}{T0:Nat}{v:Value}(i:Nat)(hd:dok X.n d=true)(hw:want ops σ ⟨d,.store T x y,ty,pos,af,gd⟩=true)(hs:szB X.P T=some 1)
  (hV:lk V i=bxl b cs T0) (hx:ev σ x=.pointer (some ⟨b,k,none⟩)) (hy:ev σ y=v) (hv:v.oneCell'=true) (hk:Nat.blt k cs.length=true)
  (h:TL X ops (stt V i (bxl b (cs.set k v) T0)) (updo σ d undef) rest Q):TL X ops V σ (⟨d,.store T x y,ty,pos,af,gd⟩::rest) Q:=by
 intro w s
 refine WL_step hd hw ?_
 have hb:=look_bx s i hV
 have hk':k<cs.length:=Nat.lt_of_lt_of_le (Nat.lt_succ_self _) (Nat.le_of_ble_eq_true hk)
 have hr:(execOp (ev σ) ⟨d,.store T x y,ty,pos,af,gd⟩).run X.P w=.ok .skip (w.setCell ⟨b,k,none⟩ v):=by
  simp only [execOp,Instr.storeAt,hx,hy,Instr.sureAddr,Sem.run_bind,Sem.run_pure,Result.andThen_ok,run_storeVar_one hs hv (store_bx hb hk' hv)]
 rw [hr]
 refine h _ (St.turn s i (fun a=>a.setCell _ _) ?_)
 intro I g p _ _
 rw [hV] at p
 have p:g=Hp.one b (.cells cs.toArray T0 (0,0)):=p
 subst p
 refine ⟨_,rfl,?_,?_,?_⟩
 ·intro j o e
  simp only [Hp.one] at e
  split at e
  ·rename_i hj
   subst hj
   rw [← Option.some.inj e,heap_set_same hb]
   simp
  ·cases e
 ·intro j hj
  refine .inl ?_
  simp only [Hp.one] at *
  split at hj
  ·rename_i e; rw [if_pos e]; exact fun h=>by cases h
  ·exact absurd rfl hj
 ·intro j o hj e
  simp only [Hp.one] at hj
  split at hj
  ·cases hj
  ·rename_i hne; rw [heap_set_other hne]; exact e
theorem storeCells_bx {P:Program}{b:Nat}{T:Nat}:∀ (vs:List Value) (k j:Nat) (cs:List Value) (w:World),w.heap[b]?=some (.cells cs.toArray T (0,0))→k+j+vs.length≤cs.length→(∀ v∈vs,v.oneCell'=true) →
  ∃ w',(storeCells ⟨b,k,none⟩ vs j).run P w=.ok () w'∧w'.heap[b]?=some (.cells (cs.take (k+j)++vs++cs.drop (k+j+vs.length)).toArray T (0,0))∧(∀ i,i≠b→w'.heap[i]?=w.heap[i]?)∧∀ C,Same C w→Same C w':=by
 intro vs
 induction vs with
 | nil =>
  intro k j cs w hb _ _
  exact ⟨w,by simp [storeCells],by simpa using hb,fun _ _=>rfl,fun _ h=>h⟩
 | cons v vs ih =>
  intro k j cs w hb hl hv
  have hl':k+j<cs.length:=by simp at hl; omega
  have h1:=store_bx (P:=P) hb hl' (hv v (by simp))
  have hb':(w.setCell ⟨b,k+j,none⟩ v).heap[b]?=some (.cells (cs.set (k+j) v).toArray T (0,0)):=by rw [heap_set_same hb]; simp
  obtain ⟨w',r,e,o,sm⟩:=ih k (j+1) (cs.set (k+j) v) _ hb' (by simp at *; omega) (fun u hu=>hv u (by simp [hu]))
  refine ⟨w',?_,?_,fun i hi=>?_,fun C hC=>sm C (hC.setCell _ _)⟩
  ·simp only [storeCells,Sem.run_bind,add_eq,h1,Result.andThen_ok,r]
  ·rw [e]
   congr 2
   rw [show k+(j+1)=(k+j)+1 by omega,List.take_succ_eq_append_getElem (by simp; exact hl'),List.take_set_of_le (Nat.le_refl _),List.drop_set_of_lt (by omega)]
   simp [Nat.add_assoc,Nat.add_comm,Nat.add_left_comm]
  ·rw [o i hi,heap_set_other hi]
theorem l_stores {T:TypeId}{x y:Operand}{b k n:Nat}{cs vs:List Value}{T0:Nat}(i:Nat)(hd:dok X.n d=true)(hw:want ops σ ⟨d,.store T x y,ty,pos,af,gd⟩=true)(hs:szB X.P T=some n)
  (hV:lk V i=bxl b cs T0) (hx:ev σ x=.pointer (some ⟨b,k,none⟩)) (hy:ev σ y=.agg vs.toArray) (hn:vs.length=n) (hv:vs.all (·.oneCell')=true) (hk:Nat.ble (k+n) cs.length=true)
  (h:TL X ops (stt V i (bxl b (cs.take k++vs++cs.drop (k+n)) T0)) (updo σ d undef) rest Q):TL X ops V σ (⟨d,.store T x y,ty,pos,af,gd⟩::rest) Q:=by
 intro w s
 refine WL_step hd hw ?_
 have hb:=look_bx s i hV
 obtain ⟨w',r,e,o,sm⟩:=storeCells_bx (P:=X.P) vs k 0 cs w hb (by have:=Nat.le_of_ble_eq_true hk; omega) (fun v hv'=>List.all_eq_true.1 hv v hv')
 have hr:(execOp (ev σ) ⟨d,.store T x y,ty,pos,af,gd⟩).run X.P w=.ok .skip w':=by
  simp [execOp,Instr.storeAt,hx,hy,Instr.sureAddr,storeVar,run_sizeOf hs,Value.cells,hn,r,Sem.run_bind]
 rw [hr]
 refine h _ (St.turn s i (fun a=>sm _ a) ?_)
 intro I g p _ _
 rw [hV] at p
 have p:g=Hp.one b (.cells cs.toArray T0 (0,0)):=p
 subst p
 refine ⟨_,rfl,?_,?_,?_⟩
 ·intro j o' e'
  simp only [Hp.one] at e'
  split at e'
  ·rename_i hj
   subst hj
   rw [← Option.some.inj e',e]
   simp [hn]
  ·cases e'
 ·intro j hj
  refine .inl ?_
  simp only [Hp.one] at *
  split at hj
  ·rename_i e; rw [if_pos e]; exact fun h=>by cases h
  ·exact absurd rfl hj
 ·intro j o' hj e'
  simp only [Hp.one] at hj
  split at hj
  ·cases hj
  ·rename_i hne; rw [o j hne]; exact e'
end
end Go.Pg
