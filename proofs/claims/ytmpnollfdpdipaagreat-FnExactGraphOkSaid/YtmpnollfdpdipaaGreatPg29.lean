import Derived.Test.YtmpnollfdpdipaaGreatPg28
set_option linter.unusedVariables false
set_option linter.unusedSimpArgs false
namespace Go.Pg
def arB (P:Program)(T:TypeId):Option (Nat×TypeId):=match P.underlying T with
 | some (.array n e)=>some (n,e)
 | _=>none
theorem arB_eq {P:Program}{T:TypeId}{n:Nat}{e:TypeId}(h:arB P T=some (n,e)):P.underlying T=some (.array n e):=by
 unfold arB at h
 split at h
 ·rename_i n' e' hu
  injection h with h; injection h with h1 h2
  subst h1 h2; exact hu
 ·cases h
section
variable {X:Cx}{V:List HP}{σ:Env}{Q:Exit→Env→World→Prop}{ops:Array Oper}{rest:List Oper}
variable {d:Option Nat}{ty:TypeId}{pos:String}{af:Array Edge}{gd:Option (Nat×Bool)}
theorem v_zarr {T e:TypeId}{n sz:Nat}{z:List Value}(ha:arB X.P T=some (n,e))(hz:zcB X.P T=some z)(hs:szB X.P e=some sz):VO X V σ ⟨d,.build T #[],ty,pos,af,gd⟩ (.agg z.toArray):=by
 intro w _
 obtain ⟨zv,hz1,hz2⟩:=run_zero (P:=X.P) (w:=w) hz
 have hf:∀ pl,Instr.fill pl zv.cells []=some zv.cells:=fun _=>rfl
 have hc:zv.cells=z.toArray:=by rw [hz2]
 simp only [execOp,Instr.build,Sem.run_bind,hz1,Result.andThen_ok,run_underlying (arB_eq ha),run_sizeOf hs,List.map_toArray,List.map_nil,hc]
 rfl
theorem v_iarr {t e:TypeId}{x y:Operand}{g o n sz:Nat}{k:IntKind}{j:Int}(ha:arB X.P t=some (n,e))(hs:szB X.P e=some sz)(hx:ev σ x=.pointer (some ⟨g,o,none⟩))(hy:ev σ y=.int k j)(h:0≤j∧j<(n:Int)) :
  VO X V σ ⟨d,.indexAddr t x y,ty,pos,af,gd⟩ (.pointer (some ⟨g,o+j.toNat*sz,none⟩)):=by
 intro w _
 have hu:=arB_eq ha
 simp [execOp,hx,hy,Instr.indexAt,asIntOf,run_underlying hu,Instr.sureAddr,h.1,h.2,run_sizeOf hs,add_eq]
end
theorem ownL_int {k:IntKind}(I:Hp)(xs:List Int):ownL (Kind.int k) I Hp.none xs (xs.map (Value.int k)):=by
 induction xs with
 | nil=>exact ⟨rfl,rfl⟩
 | cons x xs ih=>exact ⟨Hp.none,Hp.none,[.int k x],_,Join.none _,rfl,⟨rfl,rfl⟩,ih⟩
theorem St.b2o {C w:World}{V:List HP}{b:Nat}{T:Nat}{k:IntKind}{cs:List Value}(s:St C w V)(i:Nat)(xs:List Int)(hV:lk V i=bxl b cs T)(hc:cs=xs.map (Value.int k)){n:Nat}(hn:xs.length=n)(hl:Nat.ble n 1000=true) :
  St C w (ow (Kind.int k) T (.slice (some ⟨b,0,none⟩) n n) xs::Pg.rm V i):=by
 subst hn
 have s1:=s.mv i
 unfold Pg.mv at s1
 refine St.imp (A:=[lk V i]) (B:=[_]) (V:=Pg.rm V i) s1 ?_
 rintro I h _ _ ⟨h1,h2,j,p,hz⟩
 rw [hV] at p
 obtain rfl:h2=Hp.none:=hz
 refine ⟨h1,Hp.none,j,?_,rfl⟩
 obtain ⟨fr,hp,hf⟩:∃ fr,h1=Hp.one b (.cells cs.toArray T fr)∧(fr=(0,0)∨cs.length≤fr.1):=⟨(0,0),p,.inl rfl⟩
 have hl:=Nat.le_of_ble_eq_true hl
 subst hc
 exact .inr ⟨b,xs.length,[],xs.map (Value.int k),[],fr,Hp.none,rfl,Nat.le_refl _,by simp only [maxLen]; omega,by simp,by simpa using hf,by rw [hp]; simpa using (Join.none _).symm,ownL_int I xs⟩
end Go.Pg
