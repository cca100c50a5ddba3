import Derived.Test.YtmpnollfdpdipaaGreatPg3
set_option linter.unusedVariables false
set_option linter.unusedSimpArgs false
namespace Go.Pg
structure Cx where
 P:Program
 n:Nn
 C:World
def TC (X:Cx)(V:List HP)(σ:Env)(c:Code)(Q:Exit→Env→World→Prop):Prop:=∀ w,St X.C w V→W X.P X.n c Q σ w
def TL (X:Cx)(ops:Array Oper)(V:List HP)(σ:Env)(rest:List Oper)(Q:Exit→Env→World→Prop):Prop:=∀ w,St X.C w V→WL X.P X.n ops rest Q σ w
def TQ (X:Cx)(V:List HP)(σ:Env)(e:Exit)(Q:Exit→Env→World→Prop):Prop:=∀ w,St X.C w V→Q e σ w
def Nx (X:Cx)(c:Code)(Q:Exit→Env→World→Prop):Env→World→Prop:=fun σ w=>W X.P X.n c Q σ w
section
variable {X:Cx}{V:List HP}{σ:Env}{Q:Exit→Env→World→Prop}{x y:Code}{ops:Array Oper}{rest:List Oper}{o:Oper}
theorem c_seq (h:TC X V σ x (Then (Nx X y Q) Q)):TC X V σ (.seq x y) Q:=fun w s=>W_seq (h w s)
theorem c_skip (h:TQ X V σ .normal Q):TC X V σ .skip Q:=fun w s=>W_skip (h w s)
theorem c_ret (h:TQ X V σ .ret Q):TC X V σ .ret Q:=fun w s=>W_ret (h w s)
theorem c_exit {id:Nat}(h:TQ X V σ (.exit id) Q):TC X V σ (.exit id) Q:=fun w s=>W_exit (h w s)
theorem c_block {id:Nat}(h:TC X V σ x (InBlock id Q)):TC X V σ (.block id x) Q:=fun w s=>W_block (h w s)
theorem c_region {id:Nat}{l:List Oper}(h:TL X l.toArray V σ l Q):TC X V σ (.region id l.toArray false) Q:=fun w s=>W_region (h w s)
theorem c_true {k:Operand}{b:Bool}(hk:ev σ k=.bool b)(hb:b=true)(h:TC X V σ x Q):TC X V σ (.cond k x y) Q:=fun w s=>W_cond hk (by rw [hb]; exact h w s)
theorem c_false {k:Operand}{b:Bool}(hk:ev σ k=.bool b)(hb:b=false)(h:TC X V σ y Q):TC X V σ (.cond k x y) Q:=fun w s=>W_cond hk (by rw [hb]; exact h w s)
theorem l_nil (h:TQ X V σ .normal Q):TL X ops V σ [] Q:=fun w s=>WL_nil (h w s)
theorem q_next (h:TC X V σ y Q):TQ X V σ .normal (Then (Nx X y Q) Q):=fun w s=>h w s
theorem q_exit {id:Nat}{K:Env→World→Prop}(h:TQ X V σ (.exit id) Q):TQ X V σ (.exit id) (Then K Q):=fun w s=>h w s
theorem q_ret {K:Env→World→Prop}(h:TQ X V σ .ret Q):TQ X V σ .ret (Then K Q):=fun w s=>h w s
theorem q_block {id:Nat}(h:TQ X V σ .normal Q):TQ X V σ (.exit id) (InBlock id Q):=fun w s=>by
 show cond (Nat.beq id id) _ _
 rw [show Nat.beq id id=true from Nat.beq_refl id]
 exact h w s
theorem q_blockn {id:Nat}(h:TQ X V σ .normal Q):TQ X V σ .normal (InBlock id Q):=fun w s=>h w s
theorem q_blockr {id:Nat}(h:TQ X V σ .ret Q):TQ X V σ .ret (InBlock id Q):=fun w s=>h w s
theorem q_pass {id id':Nat}(hne:Nat.beq id' id=false)(h:TQ X V σ (.exit id') Q):TQ X V σ (.exit id') (InBlock id Q):=fun w s=>by
 show cond (Nat.beq id' id) _ _
 rw [hne]
 exact h w s
theorem want_on {ops:Array Oper}{σ:Env}{o:Oper}{j:Nat}{b c:Bool}(h:o.guard=some (j,b))(hg:gval ops σ j=some c)(e:c=b):want ops σ o=true:=by
 unfold want; rw [h]; simp only [hg,e]; cases b<;>rfl
theorem want_off {ops:Array Oper}{σ:Env}{o:Oper}{j:Nat}{b c:Bool}(h:o.guard=some (j,b))(hg:gval ops σ j=some c)(e:c=!b):want ops σ o=false:=by
 unfold want; rw [h]; simp only [hg,e]; cases b<;>rfl
theorem l_off (hd:dok X.n o.dst=true)(hw:want ops σ o=false)(h:TL X ops V (updo σ o.dst undef) rest Q):TL X ops V σ (o::rest) Q:=fun w s=>WL_off hd hw (h w s)
def ibin (k:IntKind):BinOp→Int→Int→Option Value
 | .add,a,b=>some (.int k (k.wrap (a+b)))
 | .sub,a,b=>some (.int k (k.wrap (a - b)))
 | .mul,a,b=>some (.int k (k.wrap (a*b)))
 | .and,a,b=>some (.int k (bits .and k a b))
 | .or,a,b=>some (.int k (bits .or k a b))
 | .xor,a,b=>some (.int k (bits .xor k a b))
 | .andNot,a,b=>some (.int k (bits .andNot k a b))
 | .eql,a,b=>some (.bool (a==b))
 | .neq,a,b=>some (.bool (a != b))
 | .lss,a,b=>some (.bool (decide (a<b)))
 | .leq,a,b=>some (.bool (decide (a≤b)))
 | .gtr,a,b=>some (.bool (decide (a>b)))
 | .geq,a,b=>some (.bool (decide (a≥b)))
 | _,_,_=>none
def pv (σ:Env):Op→Option Value
 | .move x | .assign x=>some (ev σ x)
 | .pick c a b=>match ev σ c with
  | .bool t=>some (cond t (ev σ a) (ev σ b))
  | _=>none
 | .unOp .not _ x=>match ev σ x with
  | .bool b=>some (.bool !b)
  | _=>none
 | .unOp .neg _ x=>match ev σ x with
  | .int k a=>some (.int k (k.wrap (0 - a)))
  | _=>none
 | .unOp .xor _ x=>match ev σ x with
  | .int k a=>some (.int k (bits .xor k (if k.signed then -1 else k.max) a))
  | _=>none
 | .binOp op _ x y _=>match ev σ x,ev σ y with
  | .int .i64 a,.int .i64 b=>ibin .i64 op a b
  | .int .u8 a,.int .u8 b=>ibin .u8 op a b
  | .int .i32 a,.int .i32 b=>ibin .i32 op a b
  | .int .u64 a,.int .u64 b=>ibin .u64 op a b
  | .int .u32 a,.int .u32 b=>ibin .u32 op a b
  | _,_=>none
 | .extract x i=>match ev σ x with
  | .tuple vs=>vs[i]?
  | _=>none
 | .makeFunc fn first captured=>some (.func fn (first.toList.map (ev σ)).toArray (captured.toList.map (ev σ)).toArray)
 | .nilCheck x=>match ev σ x with
  | .pointer (some a)=>some (.pointer (some a))
  | .func (.func f) a c=>some (.func (.func f) a c)
  | _=>none
 | _=>none
theorem ibin_run {P:Program}{w:World}{k:IntKind}{op:BinOp}{a b:Int}{v:Value}(t:TypeId)(x y:Operand)(h:ibin k op a b=some v) :
  (do eqGuard op t x y (.int k a) (.int k b); binOp op t (.int k a) (.int k b):Sem Value).run P w=.ok v w:=by
 cases op<;>simp only [ibin,Option.some.injEq,reduceCtorEq] at h<;>subst h <;>
  simp [eqGuard_at_int,binOp,Op.intArith,intBits_and,intBits_or,intBits_xor,intBits_andNot,Op.intCmp]
theorem pv_run {P:Program}{w:World}{v:Value}(h:pv σ o.op=some v):(execOp (ev σ) o).run P w=.ok (.value v) w:=by
 unfold execOp
 revert h
 generalize o.op=op
 intro h
 cases op<;>simp only [pv,reduceCtorEq] at h
 case move x=>simp only [Option.some.injEq] at h; subst h; rfl
 case assign x=>simp only [Option.some.injEq] at h; subst h; rfl
 case pick c a b =>
  cases hc:ev σ c<;>simp only [hc,reduceCtorEq,Option.some.injEq] at h
  subst h
  simp only [hc,asBool,Sem.run_bind,Sem.run_pure,Result.andThen_ok]
  rename_i t
  cases t<;>rfl
 case unOp u t x =>
  cases u<;>simp only [reduceCtorEq] at h<;>cases hx:ev σ x<;>simp only [hx,reduceCtorEq,Option.some.injEq] at h<;>subst h <;>
   simp [hx,Op.unary,Op.intArith,intBits_xor]
 case binOp op t x y ty =>
  have key:∀ (k:IntKind) (a b:Int),ev σ x=.int k a→ev σ y=.int k b→ibin k op a b=some v →
    (do let r ← (do eqGuard op t x y (ev σ x) (ev σ y); binOp op t (ev σ x) (ev σ y):Sem Value); pure (Next.value r):Sem Next).run P w=.ok (.value v) w:=by
   intro k a b hx hy hi
   rw [hx,hy]
   simp only [Sem.run_bind] at *
   have:=ibin_run (P:=P) (w:=w) t x y hi
   simp only [Sem.run_bind] at this
   rw [this]
   rfl
  split at h
  ·exact key _ _ _ ‹_› ‹_› h
  ·exact key _ _ _ ‹_› ‹_› h
  ·exact key _ _ _ ‹_› ‹_› h
  ·exact key _ _ _ ‹_› ‹_› h
  ·exact key _ _ _ ‹_› ‹_› h
  ·cases h
 case extract x i =>
  cases hx:ev σ x<;>simp only [hx,reduceCtorEq] at h
  simp [hx,Instr.extract,h]
 case makeFunc fn first captured =>
  simp only [Option.some.injEq] at h; subst h
  simp [Instr.makeFunc]
  exact ⟨by apply Array.ext'; simp,by apply Array.ext'; simp⟩
 case nilCheck x =>
  split at h
  ·rename_i a e
   simp only [Option.some.injEq] at h
   subst h
   simp [e]
  ·rename_i f a c e
   simp only [Option.some.injEq] at h
   subst h
   simp [e]
  ·cases h
def VO (X:Cx)(V:List HP)(σ:Env)(o:Oper)(v:Value):Prop:=∀ w,St X.C w V→(execOp (ev σ) o).run X.P w=.ok (.value v) w
theorem l_vo {v:Value}(hd:dok X.n o.dst=true)(hw:want ops σ o=true)(hv:VO X V σ o v)(h:TL X ops V (updo σ o.dst v) rest Q):TL X ops V σ (o::rest) Q :=
 fun w s=>WL_step hd hw (by rw [hv w s]; exact h w s)
theorem v_pv {v:Value}(hv:pv σ o.op=some v):VO X V σ o v:=fun _ _=>pv_run hv
end
end Go.Pg
