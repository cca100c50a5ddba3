import Derived.Test.YtmpnollfdpdipaaGreatPg9
import Derived.KernelRfl
import Derived.Lib.AppendZerosOnto
import Derived.Lib.Overlaps
import Derived.Laws.Externs
import Derived.Laws.BytesArg
import Derived.WideLaws
import Derived.RangeFuncRecord
set_option linter.unusedVariables false
set_option linter.unusedSimpArgs false
namespace Go.Pg
def nm {α:Type}(x:α):Option α:=some x
theorem nm_bind {α β:Type}(x:α)(f:α→Option β):(nm x).bind f=f x:=rfl
section
variable {C w:World}{V:List HP}{α:Type}
end
section
variable {X:Cx}{V:List HP}{σ:Env}{Q:Exit→Env→World→Prop}{ops:Array Oper}{rest:List Oper}{o:Oper}{cd:Code}{ex:Exit}
variable {d:Option Nat}{ty:TypeId}{pos:String}{af:Array Edge}{gd:Option (Nat×Bool)}
variable {α:Type}
end
end Go.Pg
namespace Go.Pg
abbrev iv (n:Int):Value:=.int .i64 n
abbrev ad (g o:Nat):Option Addr:=some ⟨g,o,none⟩
abbrev pt (b k:Nat):Value:=.pointer (some ⟨b,k,none⟩)
abbrev RR {α:Type}(K:Kind α)(a:Option Addr)(c:Nat)(xs:List α):HP:=rds K (.slice a xs.length c) xs
abbrev OO {α:Type}(K:Kind α)(e:Nat)(a:Option Addr)(c:Nat)(xs:List α):HP:=ow K e (.slice a xs.length c) xs
def rmL (V:List HP):List Nat→List HP
 | []=>V
 | i::t=>rmL (rm V i) t
theorem St.rmL {C w:World}{V:List HP}(s:St C w V)(l:List Nat):St C w (rmL V l):=by
 induction l generalizing V with
 | nil=>exact s
 | cons i t ih=>exact ih (s.rm i)
section
variable {X:Cx}{V V0:List HP}{σ:Env}{Q:Exit→Env→World→Prop}{ops:Array Oper}{rest:List Oper}{o:Oper}{k fuel:Nat}{listed:Array Bool}{C:World}
variable {d:Nat}{op:Op}{ty:TypeId}{pos:String}{af:Array Edge}{gd:Option (Nat×Bool)}
theorem sL (l:List Nat):∀ w,St C w V→St C w (rmL V l):=fun _ s=>s.rmL l
theorem lp (v:Value)(h:TL X ops V (upd σ d v) rest Q)(hv:pv σ op=some v:=by exact rfl)(hw:want ops σ ⟨some d,op,ty,pos,af,gd⟩=true:=by exact rfl)(hd:dok X.n (some d)=true:=by exact rfl):TL X ops V σ (⟨some d,op,ty,pos,af,gd⟩::rest) Q :=
 l_v v (v_pv hv) hw hd h
theorem lo (v:Value)(hv:VO X V σ ⟨some d,op,ty,pos,af,gd⟩ v)(h:TL X ops V (upd σ d v) rest Q)(hw:want ops σ ⟨some d,op,ty,pos,af,gd⟩=true:=by exact rfl)(hd:dok X.n (some d)=true:=by exact rfl):TL X ops V σ (⟨some d,op,ty,pos,af,gd⟩::rest) Q :=
 l_v v hv hw hd h
theorem lf (hw:want ops σ o=false)(h:TL X ops V (updo σ o.dst undef) rest Q)(hd:dok X.n o.dst=true:=by exact rfl):TL X ops V σ (o::rest) Q:=l_off hd hw h
theorem cdr {id:Nat}{l:List Oper}(k:Nat)(rs:List Nat)(hm:X.P.follows .mixedOrders=true)(h:tailB l.toArray k=true→Region.noSelect l.toArray=true→TD X l.toArray k (rmL V rs) l.length (Array.replicate l.length false) V σ Q)(ht:(tailB l.toArray k&&Region.noSelect l.toArray)=true:=by kernel_rfl):TC X V σ (.region id l.toArray true) Q :=
 c_draw k (rmL V rs) hm ht h
end
end Go.Pg
namespace Go.Pg
abbrev sc {α:Type}(a:Option Addr)(xs:List α)(c:Nat):Value:=.slice a xs.length c
abbrev il {α:Type}(xs:List α):Value:=.int .i64 xs.length
abbrev HH:Type:=Option Addr×Nat×Nat
theorem R {α:Sort _}{a:α}:a=a:=rfl
theorem so {α:Type _}{a b:α}(h:some a=some b):a=b:=Option.some.inj h
theorem bo (b:Bool):b=true∨b=false:=Bool.eq_false_or_eq_true b
theorem oT {c a:Bool}(h:c=true):(c||a)=true:=by rw [h]; rfl
theorem aF {c a:Bool}(h:c=false):(c&&a)=false:=by rw [h]; rfl
def up:Nat→Nat→List Nat
 | _,0=>[]
 | a,n+1=>a::up (a+1) n
def rg:List Nat→List Nat
 | a::n::t=>up a n++rg t
 | _=>[]
theorem St.d {α:Type}{K:Kind α}{C w:World}{V:List HP}{v:Value}{xs:List α}(s:St C w V)(i:Nat)(hV:lk V i=rds K v xs):St C w (rds K v xs::V):=s.dup i hV
theorem St.e {C w:World}{V:List HP}(s:St C w V)(n:Nat)(is:List Nat)(h:selB n is=true:=by exact rfl)(hn:geB n V=true:=by exact rfl):St C w (is.map (lk V)++dp n V):=s.sel n is h hn
theorem St.f {C w:World}{V:List HP}(s:St C w V)(n:Nat)(is:List Nat)(h:selB n (rg is)=true:=by exact rfl)(hn:geB n V=true:=by exact rfl):St C w ((rg is).map (lk V)++dp n V):=s.sel n (rg is) h hn
theorem aS {σ:Env}:∀ {l:List (Nat×Value)},l.map (fun p=>σ p.1)=l.map Prod.snd→AllS σ l
 | [],_=>trivial
 | (_,_)::_,h=>⟨(List.cons.inj h).1,aS (List.cons.inj h).2⟩
section
variable {X:Cx}{V V0:List HP}{σ:Env}{Q:Exit→Env→World→Prop}{ops:Array Oper}{rest:List Oper}{o:Oper}{k fuel:Nat}{listed:Array Bool}{C:World}
variable {d:Nat}{d':Option Nat}{op:Op}{ty:TypeId}{pos:String}{af:Array Edge}{gd:Option (Nat×Bool)}{v:Value}
theorem vz (v:Value)(h:VO X V σ o v):VO X V σ o v:=h
theorem vp (v:Value)(h:pv σ op=some v):VO X V σ ⟨d',op,ty,pos,af,gd⟩ v:=v_pv h
theorem vI {i:IntKind}{n:Int}(h:pv σ op=some (.int i n)):VO X V σ ⟨d',op,ty,pos,af,gd⟩ (.int i n):=v_pv h
theorem vB {n:Bool}(h:pv σ op=some (.bool n)):VO X V σ ⟨d',op,ty,pos,af,gd⟩ (.bool n):=v_pv h
theorem vS {a:Option Addr}{n c:Nat}(h:pv σ op=some (.slice a n c)):VO X V σ ⟨d',op,ty,pos,af,gd⟩ (.slice a n c):=v_pv h
theorem vP {b n:Nat}(h:pv σ op=some (.pointer (some ⟨b,n,none⟩))):VO X V σ ⟨d',op,ty,pos,af,gd⟩ (.pointer (some ⟨b,n,none⟩)):=v_pv h
theorem vA {l:List Value}(h:pv σ op=some (.agg l.toArray)):VO X V σ ⟨d',op,ty,pos,af,gd⟩ (.agg l.toArray):=v_pv h
theorem vT {l:List Value}(h:pv σ op=some (.tuple l.toArray)):VO X V σ ⟨d',op,ty,pos,af,gd⟩ (.tuple l.toArray):=v_pv h
theorem i_of {x y:Operand}{t yt:TypeId}{b:BinOp}{m n:Int}(hx:ev σ x=.int .i64 m)(hy:ev σ y=.int .i64 n)(h:ibin .i64 b m n=some v):VO X V σ ⟨d',.binOp b t x y yt,ty,pos,af,gd⟩ v:=v_pv (by simp only [pv,hx,hy]; exact h)
theorem vAd {x y:Operand}{t yt:TypeId}{m n:Int}(hx:ev σ x=.int .i64 m)(hy:ev σ y=.int .i64 n):VO X V σ ⟨d',.binOp .add t x y yt,ty,pos,af,gd⟩ (.int .i64 (w64 (m+n))):=i_of hx hy rfl
theorem vSb {x y:Operand}{t yt:TypeId}{m n:Int}(hx:ev σ x=.int .i64 m)(hy:ev σ y=.int .i64 n):VO X V σ ⟨d',.binOp .sub t x y yt,ty,pos,af,gd⟩ (.int .i64 (w64 (m - n))):=i_of hx hy rfl
theorem vMu {x y:Operand}{t yt:TypeId}{m n:Int}(hx:ev σ x=.int .i64 m)(hy:ev σ y=.int .i64 n):VO X V σ ⟨d',.binOp .mul t x y yt,ty,pos,af,gd⟩ (.int .i64 (w64 (m*n))):=i_of hx hy rfl
theorem vLt {x y:Operand}{t yt:TypeId}{m n:Int}(hx:ev σ x=.int .i64 m)(hy:ev σ y=.int .i64 n):VO X V σ ⟨d',.binOp .lss t x y yt,ty,pos,af,gd⟩ (.bool (decide (m<n))):=i_of hx hy rfl
theorem vLe {x y:Operand}{t yt:TypeId}{m n:Int}(hx:ev σ x=.int .i64 m)(hy:ev σ y=.int .i64 n):VO X V σ ⟨d',.binOp .leq t x y yt,ty,pos,af,gd⟩ (.bool (decide (m≤n))):=i_of hx hy rfl
theorem vGt {x y:Operand}{t yt:TypeId}{m n:Int}(hx:ev σ x=.int .i64 m)(hy:ev σ y=.int .i64 n):VO X V σ ⟨d',.binOp .gtr t x y yt,ty,pos,af,gd⟩ (.bool (decide (m>n))):=i_of hx hy rfl
theorem vGe {x y:Operand}{t yt:TypeId}{m n:Int}(hx:ev σ x=.int .i64 m)(hy:ev σ y=.int .i64 n):VO X V σ ⟨d',.binOp .geq t x y yt,ty,pos,af,gd⟩ (.bool (decide (m≥n))):=i_of hx hy rfl
theorem vEq {x y:Operand}{t yt:TypeId}{m n:Int}(hx:ev σ x=.int .i64 m)(hy:ev σ y=.int .i64 n):VO X V σ ⟨d',.binOp .eql t x y yt,ty,pos,af,gd⟩ (.bool (m==n)):=i_of hx hy rfl
theorem vNe {x y:Operand}{t yt:TypeId}{m n:Int}(hx:ev σ x=.int .i64 m)(hy:ev σ y=.int .i64 n):VO X V σ ⟨d',.binOp .neq t x y yt,ty,pos,af,gd⟩ (.bool (m != n)):=i_of hx hy rfl
theorem vNo {x:Operand}{t:TypeId}{b:Bool}(hx:ev σ x=.bool b):VO X V σ ⟨d',.unOp .not t x,ty,pos,af,gd⟩ (.bool !b):=v_pv (by simp only [pv,hx])
theorem vFa (k2:Nat){S:TypeId}{x:Operand}{f fo b k:Nat}(hf:fieldB X.P S f=some fo)(hx:ev σ x=.pointer (some ⟨b,k,none⟩))(he:k+fo=k2:=by exact rfl):VO X V σ ⟨d',.fieldAddr S x f,ty,pos,af,gd⟩ (.pointer (some ⟨b,k2,none⟩)):=v_fa hf hx he
theorem vLd {T:TypeId}{x:Operand}{b k:Nat}{cs:List Value}{T0:Nat}{v:Value}(i:Nat)(ha:aggB X.P T=some false)(hV:lk V i=bxl b cs T0)(hx:ev σ x=.pointer (some ⟨b,k,none⟩))(hc:nth cs k=some v):VO X V σ ⟨d',.load T x,ty,pos,af,gd⟩ v:=v_load i ha hV hx hc
theorem vIa {t e:TypeId}{x y:Operand}{g o n c sz:Nat}{k:IntKind}{j:Int}(ht:slB X.P t=some e)(hs:szB X.P e=some sz)(hx:ev σ x=.slice (some ⟨g,o,none⟩) n c)(hy:ev σ y=.int k j)(h:0≤j∧j<n):VO X V σ ⟨d',.indexAddr t x y,ty,pos,af,gd⟩ (.pointer (some ⟨g,o+j.toNat*sz,none⟩)):=v_iaddr ht hs hx hy h.1 h.2
theorem vLi {T:TypeId}{x:Operand}{g o n c:Nat}{xs:List Int}{j:Int}(i:Nat)(ha:aggB X.P T=some false)(hV:Sees (lk V i) (Kind.int .i64) (.slice (some ⟨g,o,none⟩) n c) xs)(hx:ev σ x=.pointer (some ⟨g,o+j.toNat*1,none⟩))(h:0≤j∧j<n):VO X V σ ⟨d',.load T x,ty,pos,af,gd⟩ (.int .i64 (ix xs j)) :=
 v_lde (K:=Kind.int .i64) (fo:=0) (pr:=fun x=>.int .i64 x) i j ha ((DecK.scal _ _).leaf fun _ _=>rfl) hV hx h.1 h.2
theorem pOF {c b:Bool}{x y z:Operand}(hx:ev σ x=.bool c)(h:c=false)(hz:ev σ z=.bool b):VO X V σ ⟨d',.pick x y z,ty,pos,af,gd⟩ (.bool (c||b)):=v_pickF hx h hz (vb (by rw [h]; rfl))
theorem pOT {c:Bool}{x y z:Operand}(b:Bool)(hx:ev σ x=.bool c)(h:c=true)(hy:ev σ y=.bool true:=by exact rfl):VO X V σ ⟨d',.pick x y z,ty,pos,af,gd⟩ (.bool (c||b)):=v_pickT hx h hy (vb (by rw [h]; rfl))
theorem pAT {c b:Bool}{x y z:Operand}(hx:ev σ x=.bool c)(h:c=true)(hy:ev σ y=.bool b):VO X V σ ⟨d',.pick x y z,ty,pos,af,gd⟩ (.bool (c&&b)):=v_pickT hx h hy (vb (by rw [h]; rfl))
theorem pAF {c:Bool}{x y z:Operand}(b:Bool)(hx:ev σ x=.bool c)(h:c=false)(hz:ev σ z=.bool false:=by exact rfl):VO X V σ ⟨d',.pick x y z,ty,pos,af,gd⟩ (.bool (c&&b)):=v_pickF hx h hz (vb (by rw [h]; rfl))
theorem wnT {j:Nat}{c:Bool}(e:c=true)(h:o.guard=some (j,true):=by exact rfl)(hg:gval ops σ j=some c:=by exact rfl):want ops σ o=true:=want_on h hg e
theorem wnF {j:Nat}{c:Bool}(e:c=false)(h:o.guard=some (j,false):=by exact rfl)(hg:gval ops σ j=some c:=by exact rfl):want ops σ o=true:=want_on h hg e
theorem wfT {j:Nat}{c:Bool}(e:c=true)(h:o.guard=some (j,false):=by exact rfl)(hg:gval ops σ j=some c:=by exact rfl):want ops σ o=false:=want_off h hg e
theorem wfF {j:Nat}{c:Bool}(e:c=false)(h:o.guard=some (j,true):=by exact rfl)(hg:gval ops σ j=some c:=by exact rfl):want ops σ o=false:=want_off h hg e
theorem lO (hv:VO X V σ ⟨some d,op,ty,pos,af,gd⟩ v)(h:TL X ops V (upd σ d v) rest Q)(hw:want ops σ ⟨some d,op,ty,pos,af,gd⟩=true:=by exact rfl)(hd:dok X.n (some d)=true:=by exact rfl):TL X ops V σ (⟨some d,op,ty,pos,af,gd⟩::rest) Q:=l_v v hv hw hd h
theorem lW (hw:want ops σ ⟨some d,op,ty,pos,af,gd⟩=true)(hv:VO X V σ ⟨some d,op,ty,pos,af,gd⟩ v)(h:TL X ops V (upd σ d v) rest Q)(hd:dok X.n (some d)=true:=by exact rfl):TL X ops V σ (⟨some d,op,ty,pos,af,gd⟩::rest) Q:=l_v v hv hw hd h
theorem lI {i:IntKind}{n:Int}(hv:pv σ op=some (.int i n))(h:TL X ops V (upd σ d (.int i n)) rest Q)(hw:want ops σ ⟨some d,op,ty,pos,af,gd⟩=true:=by exact rfl)(hd:dok X.n (some d)=true:=by exact rfl):TL X ops V σ (⟨some d,op,ty,pos,af,gd⟩::rest) Q:=l_v _ (v_pv hv) hw hd h
theorem lB {n:Bool}(hv:pv σ op=some (.bool n))(h:TL X ops V (upd σ d (.bool n)) rest Q)(hw:want ops σ ⟨some d,op,ty,pos,af,gd⟩=true:=by exact rfl)(hd:dok X.n (some d)=true:=by exact rfl):TL X ops V σ (⟨some d,op,ty,pos,af,gd⟩::rest) Q:=l_v _ (v_pv hv) hw hd h
theorem lS {a:Option Addr}{n c:Nat}(hv:pv σ op=some (.slice a n c))(h:TL X ops V (upd σ d (.slice a n c)) rest Q)(hw:want ops σ ⟨some d,op,ty,pos,af,gd⟩=true:=by exact rfl)(hd:dok X.n (some d)=true:=by exact rfl):TL X ops V σ (⟨some d,op,ty,pos,af,gd⟩::rest) Q:=l_v _ (v_pv hv) hw hd h
theorem lP {b n:Nat}(hv:pv σ op=some (.pointer (some ⟨b,n,none⟩)))(h:TL X ops V (upd σ d (.pointer (some ⟨b,n,none⟩))) rest Q)(hw:want ops σ ⟨some d,op,ty,pos,af,gd⟩=true:=by exact rfl)(hd:dok X.n (some d)=true:=by exact rfl):TL X ops V σ (⟨some d,op,ty,pos,af,gd⟩::rest) Q:=l_v _ (v_pv hv) hw hd h
theorem dR (i:Nat)(hi:ops[i]?=some ⟨some d,op,ty,pos,af,gd⟩)(hv:VO X V0 σ ⟨some d,op,ty,pos,af,gd⟩ v)(h:TD X ops k V0 fuel (listed.setIfInBounds i true) V (upd σ d v) Q)(hw:want ops σ ⟨some d,op,ty,pos,af,gd⟩=true:=by exact rfl)(hd:dok X.n (some d)=true:=by exact rfl)
  (hik:Nat.blt i k=true:=by exact rfl) (ht:tailB ops k=true:=by assumption) (hn:Region.noSelect ops=true:=by assumption) (hf:(Region.free .any ops listed i&&(Region.ready .any ops listed).contains i)=true:=by kernel_rfl) (hS:∀ w,St X.C w V→St X.C w V0:=by exact sL []):TD X ops k V0 (fuel+1) listed V σ Q :=
 d_v i v hi hv hw hd hik ht hn hf hS h
theorem dW (i:Nat)(hi:ops[i]?=some ⟨some d,op,ty,pos,af,gd⟩)(hw:want ops σ ⟨some d,op,ty,pos,af,gd⟩=true)(hv:VO X V0 σ ⟨some d,op,ty,pos,af,gd⟩ v)(h:TD X ops k V0 fuel (listed.setIfInBounds i true) V (upd σ d v) Q)(hd:dok X.n (some d)=true:=by exact rfl)
  (hik:Nat.blt i k=true:=by exact rfl) (ht:tailB ops k=true:=by assumption) (hn:Region.noSelect ops=true:=by assumption) (hf:(Region.free .any ops listed i&&(Region.ready .any ops listed).contains i)=true:=by kernel_rfl) (hS:∀ w,St X.C w V→St X.C w V0:=by exact sL []):TD X ops k V0 (fuel+1) listed V σ Q :=
 d_v i v hi hv hw hd hik ht hn hf hS h
theorem qF {A:Type}{post:A→Value×List HP}{fn:Func}{t:Nat}{e:Exit}(x:A)(hs:∀ w,St X.C w V→St X.C w ((post x).2++V0))(he:(e=.ret∨e=.normal):=by first | exact .inl rfl | exact .inr rfl)(hr:fn.results=#[.tmp t]:=by exact rfl)(hv:σ t=(post x).1:=by exact rfl) :
  TQ X V σ e (Ends X.P fn (Fin X V0 post)):=q_fin (rs:=[.tmp t]) (vs:=[(post x).1]) he x hr ⟨hv,trivial⟩ rfl hs
theorem lN (V:List HP)(h:TL X ops V σ rest Q):TL X ops V σ rest Q:=h
theorem cN {cd:Code}(V:List HP)(h:TC X V σ cd Q):TC X V σ cd Q:=h
theorem qN {e:Exit}(V:List HP)(h:TQ X V σ e Q):TQ X V σ e Q:=h
theorem lM (V':List HP)(f:∀ w,St X.C w V→St X.C w V')(h:TL X ops V' σ rest Q):TL X ops V σ rest Q:=l_st f h
theorem cM {cd:Code}(V':List HP)(f:∀ w,St X.C w V→St X.C w V')(h:TC X V' σ cd Q):TC X V σ cd Q:=c_st f h
theorem qM {e:Exit}(V':List HP)(f:∀ w,St X.C w V→St X.C w V')(h:TQ X V' σ e Q):TQ X V σ e Q:=q_st f h
theorem lBx {T:TypeId}{x:Operand}{l:List Value}(hx:ev σ x=.agg l.toArray)(h:∀ b,TL X ops (bxl b l T::V) (updo σ d' (.pointer (some ⟨b,0,none⟩))) rest Q)(hd:dok X.n d'=true:=by exact rfl)(hw:want ops σ ⟨d',.box T x,ty,pos,af,gd⟩=true:=by exact rfl):TL X ops V σ (⟨d',.box T x,ty,pos,af,gd⟩::rest) Q :=
 l_box hd hw (by rw [hx]; rfl) h
theorem lC {A:Type}{f:FuncId}{xs:Array Operand}{ats:Array TypeId}{as:List Value}{Pre:List HP}{post:A→Value×List HP}(m:Nat)(hf:callB X.P f=true)(ha:xs.toList.map (ev σ)=as)(hc:FnOk X.P f as Pre post)(hV:tk m V=Pre)(k:∀ x,TL X ops ((post x).2++dp m V) (updo σ d' (post x).1) rest Q)
  (hd:dok X.n d'=true:=by exact rfl) (hw:want ops σ ⟨d',.call ⟨.value (.func f),xs,ats⟩,ty,pos,af,gd⟩=true:=by exact rfl):TL X ops V σ (⟨d',.call ⟨.value (.func f),xs,ats⟩,ty,pos,af,gd⟩::rest) Q :=
 l_calln m hd hw hf ha hc hV k
theorem cQ {x:Code}(sl:List (Nat×Value))(Vf:List HP)(hx:TC X V σ x (Then (Jn X (fun _:Unit×Unit=>True) (fun _=>sl) (fun _=>Vf)) Q))(hy:∀ σ',TQ X Vf (updl σ' sl) .normal Q):TC X V σ x Q:=c_cutq _ _ _ hx (fun _ σ' _=>hy σ')
theorem qJ {sl:List (Nat×Value)}{Vf:List HP}(h2:∀ w,St X.C w V→St X.C w Vf)(h1:AllS σ sl:=by exact aS R):TQ X V σ .normal (Then (Jn X (fun _:Unit×Unit=>True) (fun _=>sl) (fun _=>Vf)) Q):=q_join ((),()) trivial h1 h2
theorem qI {A:Type}{pf:A→Prop}{sl:A→List (Nat×Value)}{Vf:A→List HP}(a:A)(h0:pf a)(h2:∀ w,St X.C w V→St X.C w (Vf a))(h1:AllS σ (sl a):=by exact aS R):TQ X V σ .normal (Then (Jn X pf sl Vf) Q):=q_join a h0 h1 h2
theorem qA {S E A:Type}{sl:S→A→List (Nat×Value)}{Vf:S→A→List HP}{s:S}(a:A)(h2:∀ w,St X.C w V→St X.C w (Vf s a))(h1:AllS σ (sl s a):=by exact aS R):TQ X V σ .normal (Then (Nxt X (E:=E) (.inl s) sl Vf) Q):=q_again a h1 h2
theorem cL {α:Type}{K:Kind α}{a:Option Addr}{n c:Nat}{xs:List α}{cd:Code}(i:Nat)(hV:Sees (lk V i) K (.slice a n c) xs)(h:n=xs.length→TC X V σ cd Q):TC X V σ cd Q:=c_len i hV h
end
end Go.Pg
namespace Go.Pg
def recFuel:Nat:=1099511627776
end Go.Pg
namespace Go.Pg
section
variable {X:Cx}{V:List HP}{σ:Env}{Q:Exit→Env→World→Prop}{ops:Array Oper}{rest:List Oper}{o:Oper}{cd:Code}{ex:Exit}
variable {d:Option Nat}{ty:TypeId}{pos:String}{af:Array Edge}{gd:Option (Nat×Bool)}
variable {α:Type}
end
section
variable {C w:World}{V:List HP}{α:Type}
end
section
variable {X:Cx}{V:List HP}{σ:Env}{Q:Exit→Env→World→Prop}{ops:Array Oper}{rest:List Oper}{o:Oper}{cd:Code}{ex:Exit}
variable {d:Option Nat}{ty:TypeId}{pos:String}{af:Array Edge}{gd:Option (Nat×Bool)}
variable {α:Type}
end
end Go.Pg
namespace Go.Pg
section
variable {X:Cx}{V V0:List HP}{σ:Env}{Q:Exit→Env→World→Prop}{ops:Array Oper}{o:Oper}{k fuel:Nat}{listed:Array Bool}
theorem d1 (i:Nat)(hi:ops[i]?=some o)(h:TL X ops V σ [o] (DK X ops k V0 fuel listed i Q))(hr:Region.ready .any ops listed=[i]:=by kernel_rfl):TD X ops k V0 (fuel+1) listed V σ Q:=d_one i hr hi h
theorem dD (h:TQ X V σ .normal Q)(hr:Region.ready .any ops listed=[]:=by kernel_rfl):TD X ops k V0 fuel listed V σ Q:=d_done hr h
theorem qE {i:Nat}(h:TD X ops k V0 fuel (listed.setIfInBounds i true) V σ Q)(hi:Nat.blt i k=false:=by exact rfl):TQ X V σ .normal (DK X ops k V0 fuel listed i Q):=q_last hi h
end
end Go.Pg
namespace Go.Pg
section
variable {X:Cx}{V:List HP}{σ:Env}{Q:Exit→Env→World→Prop}{ops:Array Oper}{rest:List Oper}
variable {d:Option Nat}{ty:TypeId}{pos:String}{af:Array Edge}{gd:Option (Nat×Bool)}
variable {α β:Type}
end
section
variable (K:Kind Int)(A:Option Addr)(n c:Nat)
end
section
variable {C w:World}{V:List HP}{α β γ:Type}
end
section
variable {α β γ:Type}
end
section
variable {X:Cx}{V:List HP}{σ:Env}{Q:Exit→Env→World→Prop}
end
theorem St.em {C w:World}{V:List HP}(s:St C w V):St C w (emp::V):=by
 obtain ⟨a,I,h,g,j,l,s⟩:=s
 exact ⟨a,I,h,g,j,l,Hp.none,h,Join.none h,rfl,s⟩
end Go.Pg
namespace Go.Pg
def strB (xs:List Int):Str:=xs.map fun n=>UInt8.ofNat n.toNat
section
variable {X:Cx}{V:List HP}{σ:Env}{Q:Exit→Env→World→Prop}{ops:Array Oper}{rest:List Oper}
variable {d:Option Nat}{ty:TypeId}{pos:String}{af:Array Edge}{gd:Option (Nat×Bool)}
theorem v_b2s {src dst e:TypeId}{x:Operand}{a:Option Addr}{n c:Nat}{xs:List Int}(i:Nat)(hs:slB X.P src=some e)(he:X.P.underlying e=some (.int .u8))(hd:X.P.underlying dst=some .string)
  (hV:Sees (lk V i) (Kind.int .u8) (.slice a n c) xs) (hx:ev σ x=.slice a n c):VO X V σ ⟨d,.convert src dst x,ty,pos,af,gd⟩ (vstr (strB xs)):=by
 intro w s
 obtain ⟨J,lw,r⟩:=s.reads hV
 obtain ⟨A,c',hv,_,_,hc⟩:=r
 injection hv with e1 e2 e3
 subst e1 e2 e3
 have hs':=slB_eq hs
 by_cases hp:0<xs.length
 ·obtain ⟨g,o,rfl,hq⟩:=hc hp
  have:=run_convert_bytes_arg (P:=X.P) w src e hs' he g o xs.length c xs rfl (fun k hk=>by
   obtain ⟨cs,h1,h2⟩:=hq k _ (List.getElem?_eq_getElem hk)
   replace h1:cs=[.int .u8 xs[k]]:=h1
   subst h1
   have:=cell_of_H lw (h2 0 _ rfl)
   rw [List.getD_eq_getElem?_getD,List.getElem?_eq_getElem hk,Option.getD_some]
   have e4:o+k*(Kind.int .u8).sz+0=o+k:=by show o+k*1+0=o+k; omega
   rw [e4] at this
   exact this) dst hd
  simp only [execOp,hx,Sem.run_bind,this,Result.andThen_ok,Sem.run_pure]
  rfl
 ·have hz:xs=[]:=List.eq_nil_of_length_eq_zero (by omega)
  subst hz
  have:(convert src dst (.slice a 0 c)).run X.P w=.ok (.string ByteArray.empty) w:=by
   rw [run_convert_bytes_string w src dst e a 0 c hs' he hd]
   cases a with
   | none=>simp [Conv.bytesToString]
   | some a =>
    have hl:(loadCells a 0).run X.P w=.ok (([]:List Int).map (Value.int .u8)).toArray w:=run_loadCells_list (P:=X.P) w a [] (fun j v hj=>by simp at hj)
    rw [run_bytesToString w a 0 c [] hl]; rfl
  have hx:ev σ x=.slice a 0 c:=hx
  simp only [execOp,hx,Sem.run_bind,this,Result.andThen_ok,Sem.run_pure]
  rfl
theorem l_makec {α:Type}{K:Kind α}{t e:TypeId}{x y:Operand}{m:Int}{z:α}{by_:Nat}(hd:dok X.n d=true)(hw:want ops σ ⟨d,.makeSlice t x y,ty,pos,af,gd⟩=true)(ht:slB X.P t=some e)(hs:szB X.P e=some K.sz)(hb:bytesB X.P e=some by_)
  (hz:ZeroK X.P K e z) (hsz:0<K.sz) (hx:ev σ x=.int .i64 0) (hy:ev σ y=.int .i64 m) (h0:0≤m) (h1:m≤140737488355328) (h2:by_*m≤281474976710656)
  (h:∀ a c,TL X ops (ow K e (.slice a ([]:List α).length c) []::V) (updo σ d (.slice a ([]:List α).length c)) rest Q):TL X ops V σ (⟨d,.makeSlice t x y,ty,pos,af,gd⟩::rest) Q:=by
 intro w s
 obtain ⟨cs,hz1,hz2,hz3⟩:=hz
 unfold zcB at hz1
 unfold szB at hs
 unfold bytesB at hb
 cases hi:X.P.info? e with
 | none=>rw [hi] at hs; cases hs
 | some info =>
  rw [hi] at hz1 hs hb
  simp only [Option.map_some,Option.some.injEq,Option.bind_some] at hz1 hs hb
  cases hzz:info.zero with
  | none=>rw [hzz] at hz1; cases hz1
  | some zv =>
   rw [hzz] at hz1
   simp only [Option.map_some,Option.some.injEq] at hz1
   have hr:=run_make (P:=X.P) w t e info zv (slB_eq ht) hi hzz .i64 .i64 0 m (Int.le_refl _) h0 (by rw [hb]; exact h2) (by omega)
   refine WL_step hd hw ?_
   have hr':(execOp (ev σ) ⟨d,.makeSlice t x y,ty,pos,af,gd⟩).run X.P w=.ok (.value (.slice (some ⟨w.heap.size,0,none⟩) 0 m.toNat)) (w.alloc (.cells (madeCells zv.cells (m.toNat*info.size)) e)):=by
    simp only [execOp,hx,hy,Sem.run_bind,hr,Result.andThen_ok,Sem.run_pure]; rfl
   rw [hr']
   have hzs:zv.cells.size=K.sz:=by rw [← hz2,← hz1]; simp
   have hcells:(madeCells zv.cells (m.toNat*info.size)).toList=(List.replicate m.toNat cs).flatten:=by
    rw [hs,← hzs,made_flat _ (by omega),← hz1]
   have hlen:(madeCells zv.cells (m.toNat*info.size)).toList.length=m.toNat*K.sz:=by rw [Array.length_toList,size_madeCells,hs]
   refine h (some ⟨w.heap.size,0,none⟩) m.toNat _ (St.new s (fun a=>a.alloc _) (fun I _=>?_) ?_)
   ·obtain ⟨h',jo⟩:=Join.of_disj (h1:=Hp.one w.heap.size (.cells (madeCells zv.cells (m.toNat*info.size)) e)) (h2:=Hp.none) (fun _=>.inr rfl)
    have he:=jo.symm.eq_of_none
    refine ⟨h',.inr ⟨w.heap.size,m.toNat,[],[],(madeCells zv.cells (m.toNat*info.size)).toList,(0,0),Hp.none,by simp,by simp,by simp only [maxLen]; omega,by rw [hlen]; simp,.inl rfl,?_,rfl,rfl⟩,?_,?_⟩
    ·simp only [List.nil_append,List.append_nil,Array.toArray_toList]
     exact jo
    ·rw [he]
     intro b o e'
     simp only [Hp.one] at e'
     split at e'
     ·rename_i hb'
      subst hb'
      rw [← Option.some.inj e']
      show (w.heap.push _)[w.heap.size]?=_
      simp
     ·cases e'
    ·rw [he]
     intro b hb'
     simp only [Hp.one] at hb'
     split at hb'
     ·rename_i e'; exact Nat.le_of_eq e'.symm
     ·exact absurd rfl hb'
   ·intro b o e'
    have hlt:=(Array.getElem?_eq_some_iff.1 e').1
    show (w.heap.push _)[b]?=_
    rw [Array.getElem?_push,if_neg (Nat.ne_of_lt hlt)]
    exact e'
end
end Go.Pg
namespace Go.Pg
abbrev gl (g:Nat)(m:Int):HP:=cl g 0 [.int .i64 m]
theorem St.dg {C w:World}{V:List HP}{g k:Nat}{cs:List Value}(s:St C w V)(i:Nat)(hV:lk V i=cl g k cs):St C w (cl g k cs::V):=by
 obtain ⟨a,I,h,gg,j,l,st⟩:=s
 obtain ⟨h1,h2,j',p,s'⟩:=star_take i st
 rw [hV] at p
 exact ⟨a,I,h,gg,j,l,Hp.none,h,Join.none h,⟨rfl,p.2⟩,st⟩
theorem fn_pure {P:Program}{f:FuncId}{args:List Value}{v:Value}(h:∀ w,Calls P f args.toArray w fun e w'=>e=.returned v∧w'=w):FnOk P f args [] (fun _:Unit=>(v,[])):=by
 intro C w V s
 refine Calls.mono' (h w) ?_
 rintro e w' ⟨rfl,rfl⟩
 exact ⟨(),rfl,s⟩
theorem fn_gl {P:Program}{f:FuncId}{args:List Value}{v:Value}{g:Nat}{m:Int}(h:∀ w,w.cell? ⟨g,0,none⟩=some (.int .i64 m)→Calls P f args.toArray w fun e w'=>e=.returned v∧w'=w):FnOk P f args [gl g m] (fun _:Unit=>(v,[])):=by
 intro C w V s
 obtain ⟨I,hh,p,l1,l2,-⟩:=s.look 0
 have hm:w.cell? ⟨g,0,none⟩=some (.int .i64 m):=cell_of_H l1 (p.2 0 _ rfl)
 refine Calls.mono' (h w hm) ?_
 rintro e w' ⟨rfl,rfl⟩
 exact ⟨(),rfl,s.rm 0⟩
end Go.Pg
namespace Go.Pg
def arB (P:Program)(T:TypeId):Option (Nat×TypeId):=match P.underlying T with
 | some (.array n e)=>some (n,e)
 | _=>none
theorem arB_eq {P:Program}{T:TypeId}{n:Nat}{e:TypeId}(h:arB P T=some (n,e)):P.underlying T=some (.array n e):=by
 unfold arB at h
 split at h
 ·rename_i n' e' hu
  injection h with h; injection h with h1 h2
  subst h1 h2; exact hu
 ·cases h
section
variable {X:Cx}{V:List HP}{σ:Env}{Q:Exit→Env→World→Prop}{ops:Array Oper}{rest:List Oper}
variable {d:Option Nat}{ty:TypeId}{pos:String}{af:Array Edge}{gd:Option (Nat×Bool)}
theorem v_zarr {T e:TypeId}{n sz:Nat}{z:List Value}(ha:arB X.P T=some (n,e))(hz:zcB X.P T=some z)(hs:szB X.P e=some sz):VO X V σ ⟨d,.build T #[],ty,pos,af,gd⟩ (.agg z.toArray):=by
 intro w _
 obtain ⟨zv,hz1,hz2⟩:=run_zero (P:=X.P) (w:=w) hz
 have hf:∀ pl,Instr.fill pl zv.cells []=some zv.cells:=fun _=>rfl
 have hc:zv.cells=z.toArray:=by rw [hz2]
 simp only [execOp,Instr.build,Sem.run_bind,hz1,Result.andThen_ok,run_underlying (arB_eq ha),run_sizeOf hs,List.map_toArray,List.map_nil,hc]
 rfl
theorem v_iarr {t e:TypeId}{x y:Operand}{g o n sz:Nat}{k:IntKind}{j:Int}(ha:arB X.P t=some (n,e))(hs:szB X.P e=some sz)(hx:ev σ x=.pointer (some ⟨g,o,none⟩))(hy:ev σ y=.int k j)(h:0≤j∧j<(n:Int)) :
  VO X V σ ⟨d,.indexAddr t x y,ty,pos,af,gd⟩ (.pointer (some ⟨g,o+j.toNat*sz,none⟩)):=by
 intro w _
 have hu:=arB_eq ha
 simp [execOp,hx,hy,Instr.indexAt,asIntOf,run_underlying hu,Instr.sureAddr,h.1,h.2,run_sizeOf hs,add_eq]
end
theorem ownL_int {k:IntKind}(I:Hp)(xs:List Int):ownL (Kind.int k) I Hp.none xs (xs.map (Value.int k)):=by
 induction xs with
 | nil=>exact ⟨rfl,rfl⟩
 | cons x xs ih=>exact ⟨Hp.none,Hp.none,[.int k x],_,Join.none _,rfl,⟨rfl,rfl⟩,ih⟩
theorem St.b2o {C w:World}{V:List HP}{b:Nat}{T:Nat}{k:IntKind}{cs:List Value}(s:St C w V)(i:Nat)(xs:List Int)(hV:lk V i=bxl b cs T)(hc:cs=xs.map (Value.int k)){n:Nat}(hn:xs.length=n)(hl:Nat.ble n 1000=true) :
  St C w (ow (Kind.int k) T (.slice (some ⟨b,0,none⟩) n n) xs::Pg.rm V i):=by
 subst hn
 have s1:=s.mv i
 unfold Pg.mv at s1
 refine St.imp (A:=[lk V i]) (B:=[_]) (V:=Pg.rm V i) s1 ?_
 rintro I h _ _ ⟨h1,h2,j,p,hz⟩
 rw [hV] at p
 obtain rfl:h2=Hp.none:=hz
 refine ⟨h1,Hp.none,j,?_,rfl⟩
 obtain ⟨fr,hp,hf⟩:∃ fr,h1=Hp.one b (.cells cs.toArray T fr)∧(fr=(0,0)∨cs.length≤fr.1):=⟨(0,0),p,.inl rfl⟩
 have hl:=Nat.le_of_ble_eq_true hl
 subst hc
 exact .inr ⟨b,xs.length,[],xs.map (Value.int k),[],fr,Hp.none,rfl,Nat.le_refl _,by simp only [maxLen]; omega,by simp,by simpa using hf,by rw [hp]; simpa using (Join.none _).symm,ownL_int I xs⟩
end Go.Pg
namespace Go.Pg
def pk (L:List HP):HP:=⟨fun I h=>star L I h,fun l s=>star_mono l s⟩
theorem St.pack {C w:World}{A V:List HP}(s:St C w (A++V)):St C w (pk A::V):=by
 refine St.imp (A:=A) (B:=[pk A]) s ?_
 intro I h _ _ a
 exact ⟨h,Hp.none,(Join.none h).symm,a,rfl⟩
theorem St.unpack {C w:World}{A V:List HP}(s:St C w (pk A::V)):St C w (A++V):=by
 refine St.imp (A:=[pk A]) (B:=A) s ?_
 rintro I h _ _ ⟨h1,h2,j,a,rfl⟩
 rw [j.symm.eq_of_none]; exact a
def InvOk {A:Type}(P:Program)(v:Value)(name:String)(args:List Value)(Pre:List HP)(post:A→Value×List HP):Prop :=
 ∃ (f:FuncId) (as:List Value),(∀ w,(callMethod v name args.toArray).run P w=.ok (.enter f as.toArray) w)∧FnOk P f as Pre post
theorem InvOk.mk {A:Type}{P:Program}{v r:Value}{name:String}{args:List Value}{Pre:List HP}{post:A→Value×List HP}{f:FuncId}
  (h:∀ (args:Array Value) w,(callMethod v name args).run P w=.ok (.enter f (#[r]++args)) w) (hc:FnOk P f (r::args) Pre post):InvOk P v name args Pre post :=
 ⟨f,r::args,fun w=>by rw [h]; simp,hc⟩
theorem InvOk.perm {A:Type}{P:Program}{v:Value}{name:String}{args:List Value}{Pre Pre':List HP}{post:A→Value×List HP}(hc:InvOk P v name args Pre post)(h:∀ C w V,St C w (Pre'++V)→St C w (Pre++V)):InvOk P v name args Pre' post:=by
 obtain ⟨f,as,h1,h2⟩:=hc
 exact ⟨f,as,h1,h2.perm h⟩
theorem InvOk.lends {T:Type}{P:Program}{v:Value}{name:String}{args:List Value}{A' A B:List HP}{post:T→Value×List HP}(hc:InvOk P v name args (A++B) post)(hl:Lends A' A)(hp:∀ x,AllC (post x).2):InvOk P v name args (A'++B) (fun x=>((post x).1,A'++(post x).2)):=by
 obtain ⟨f,as,h1,h2⟩:=hc
 exact ⟨f,as,h1,h2.lends hl hp⟩
section
variable {X:Cx}{V:List HP}{σ:Env}{Q:Exit→Env→World→Prop}{ops:Array Oper}{rest:List Oper}
variable {d:Option Nat}{ty:TypeId}{pos:String}{af:Array Edge}{gd:Option (Nat×Bool)}
theorem l_inv {A:Type}{r:Operand}{name:String}{xs:Array Operand}{ats:Array TypeId}{v:Value}{as:List Value}{Pre:List HP}{post:A→Value×List HP}(m:Nat)(hw:want ops σ ⟨d,.call ⟨.invoke r name,xs,ats⟩,ty,pos,af,gd⟩=true)
  (hx:ev σ r=v) (ha:xs.toList.map (ev σ)=as) (hc:InvOk X.P v name as Pre post) (hV:tk m V=Pre) (k:∀ x,TL X ops ((post x).2++dp m V) (updo σ d (post x).1) rest Q)
  (hd:dok X.n d=true:=by exact rfl):TL X ops V σ (⟨d,.call ⟨.invoke r name,xs,ats⟩,ty,pos,af,gd⟩::rest) Q:=by
 intro w s
 refine WL_step hd hw ?_
 obtain ⟨f,as',hf,hc⟩:=hc
 have hr:(execOp (ev σ) ⟨d,.call ⟨.invoke r name,xs,ats⟩,ty,pos,af,gd⟩).run X.P w=.ok (.enter f as'.toArray) w:=by
  have e1:(#[v]++xs.map (ev σ)).extract 1 (#[v]++xs.map (ev σ)).size=as.toArray:=by
   rw [arr_map xs _ ha]
   have:(#[v]++as.toArray).size=as.length+1:=by simp [Nat.add_comm]
   rw [this]
   apply Array.ext'
   simp [Array.toList_extract,List.extract]
  have e2:(#[v]++xs.map (ev σ))[0]?=some v:=by rw [Array.getElem?_append_left (by simp)]; rfl
  simp only [execOp,resolve,hx,Sem.run_bind,Sem.run_pure,Result.andThen_ok,invoke,e2,e1,hf]
 rw [hr]
 rw [← tk_dp m V,hV] at s
 refine Calls.mono' (hc X.C w _ s) ?_
 rintro e w' ⟨x,rfl,s'⟩
 exact k x w' s'
theorem v_inil {T T':TypeId}{x:Operand}{u:TypeId}{v:Value}(hT:X.P.underlying T=some (.interface (X.P.methodsAt T)))(hx:ev σ x=.iface u v):VO X V σ ⟨d,.binOp .eql T x (.const .nilIface) T',ty,pos,af,gd⟩ (.bool false):=by
 intro w _
 have e:ev σ (.const .nilIface)=.nilIface:=rfl
 have g:(eqGuard .eql T x (.const .nilIface) (.iface u v) .nilIface).run X.P w=.ok () w:=rfl
 have b:binOp .eql T (.iface u v) .nilIface=(do pure (.bool (← Op.equal T (.iface u v) .nilIface))):=rfl
 simp only [execOp,hx,e,Sem.run_bind,g,Result.andThen_ok,b,run_equal_held_nil w T u v hT,Sem.run_pure]
theorem v_inil0 {T T':TypeId}{x:Operand}(hT:X.P.underlying T=some (.interface (X.P.methodsAt T)))(hx:ev σ x=.nilIface):VO X V σ ⟨d,.binOp .eql T x (.const .nilIface) T',ty,pos,af,gd⟩ (.bool true):=by
 intro w _
 have e:ev σ (.const .nilIface)=.nilIface:=rfl
 have g:(eqGuard .eql T x (.const .nilIface) .nilIface .nilIface).run X.P w=.ok () w:=by
  cases x<;>rfl
 have b:binOp .eql T .nilIface .nilIface=(do pure (.bool (← Op.equal T .nilIface .nilIface))):=rfl
 simp only [execOp,hx,e,Sem.run_bind,g,Result.andThen_ok,b,run_equal_nil_nil w T hT,Sem.run_pure]
theorem v_mki {u:TypeId}{x:Operand}{v:Value}(hc:X.P.concrete u=true)(hx:ev σ x=v):VO X V σ ⟨d,.makeInterface u x,ty,pos,af,gd⟩ (.iface u v):=by
 intro w _
 simp only [execOp,hx,Sem.run_bind,run_makeInterface w _ _ hc,Result.andThen_ok,Sem.run_pure]
end
end Go.Pg
namespace Go.Pg
def ob (l:Nat)(o:Obj):HP:=⟨fun _ h=>h=Hp.one l o,fun _ e=>e⟩
abbrev lpe (l:Nat)(r:Loop):HP:=ob l (.loop r)
def pe {A:Type}(f:A→List HP):HP:=⟨fun I h=>∃ x,star (f x) I h,fun l ⟨x,s⟩=>⟨x,star_mono l s⟩⟩
theorem St.pei {C w:World}{A:Type}{f:A→List HP}{V:List HP}(x:A)(s:St C w (f x++V)):St C w (pe f::V):=by
 refine St.imp (A:=f x) (B:=[pe f]) s ?_
 intro I h _ _ a
 exact ⟨h,Hp.none,(Join.none h).symm,⟨x,a⟩,rfl⟩
theorem St.peo {C w:World}{A:Type}{f:A→List HP}{V:List HP}(s:St C w (pe f::V)):∃ x,St C w (f x++V):=by
 obtain ⟨a,I,h,g,j,l,h1,h2,j',⟨x,c⟩,d⟩:=s
 exact ⟨x,a,I,h,g,j,l,star_app.2 ⟨h1,h2,j',c,d⟩⟩
theorem one_self (l:Nat)(o:Obj):Hp.one l o l=some o:=by simp [Hp.one]
theorem one_ne {l b:Nat}{o:Obj}(h:Hp.one l o b≠none):b=l:=by
 unfold Hp.one at h
 split at h
 ·assumption
 ·exact absurd rfl h
theorem look_ob {C w:World}{V:List HP}{l:Nat}{o:Obj}(s:St C w V)(i:Nat)(h:lk V i=ob l o):w.heap[l]?=some o:=by
 obtain ⟨I,g,p,_,lh,_⟩:=s.look i
 rw [h] at p
 cases p
 exact lh l o (one_self l o)
theorem Same.putObj {C w:World}(s:Same C w)(l:Nat)(o:Obj):Same C (w.putObj l o):=⟨s.os,s.tape,s.output⟩
theorem St.putObj {C w:World}{V:List HP}{l:Nat}{o o':Obj}(s:St C w (ob l o::V)):St C (w.putObj l o') (ob l o'::V):=by
 have hl:=look_ob s 0 rfl
 have hlt:l<w.heap.size:=(Array.getElem?_eq_some_iff.1 hl).1
 refine St.turn s 0 (q:=ob l o') (fun a=>a.putObj l o') ?_
 rintro I h e _ _
 cases e
 refine ⟨_,rfl,?_,?_,?_⟩
 ·intro b o2 e
  have:=one_ne (by rw [e]; exact fun h=>by cases h)
  subst this
  rw [one_self] at e
  cases e
  exact World.putObj_heap_same hlt
 ·intro b hb
  have:=one_ne hb
  subst this
  exact .inl (by rw [one_self]; exact fun h=>by cases h)
 ·intro b o2 e h2
  rw [World.putObj_heap_other]
  ·exact h2
  ·rintro rfl
   rw [one_self] at e; cases e
theorem St.newOb {C w:World}{V:List HP}(s:St C w V)(o:Obj):St C (w.alloc o) (ob w.heap.size o::V):=by
 refine St.new s (q:=ob w.heap.size o) (fun a=>a.alloc o) (fun I _=>⟨_,rfl,?_,?_⟩) ?_
 ·intro b o2 e
  have:=one_ne (by rw [e]; exact fun h=>by cases h)
  subst this
  rw [one_self] at e
  cases e
  exact World.alloc_heap_new w o
 ·intro b hb
  exact Nat.le_of_eq (one_ne hb).symm
 ·intro b o2 e
  show (w.heap.push o)[b]?=some o2
  have hlt:=(Array.getElem?_eq_some_iff.1 e).1
  rw [Array.getElem?_push,if_neg (Nat.ne_of_lt hlt)]
  exact e
def inW (ro:Option Nat):Fence:={Fence.wide with round:=ro}
theorem calls_inW {ro:Option Nat}{n:Nat}{P:Program}{f:FuncId}{args:Array Value}{w:World}{R:Ending→World→Prop}(h:Calls P f args w R):CallsIn (inW ro) n P f args w R :=
 (callsIn_wide (n:=n)).2 h
theorem rows_inW {ro:Option Nat}{n:Nat}{P:Program}{row:String}{args:Array Value}{w:World}{R:Value→World→Prop}(h:Rows P row args w R):RowsIn (inW ro) n P row args w R:=by
 intro c cs _
 obtain ⟨v,w',r,s⟩:=h c cs
 exact ⟨v,w',r,stepsIn_wide.2 s⟩
theorem upon_inW {ro:Option Nat}{P:Program}{o:Oper}{a:Act}{next:Act→World→Prop}{Q:Exit→Act→World→Prop}{r:Result Next}(h:o.upon P a next Q r):o.uponIn (inW ro) 0 P a next Q r:=by
 match r,h with
 | .ok (.value v) w',h=>exact h
 | .ok .skip w',h=>exact h
 | .ok (.defer d) w',h=>exact h
 | .ok (.enter f args) w',h =>
  refine ⟨(fun h=>by cases h),?_⟩
  refine (calls_inW h).mono ?_
  intro e w'' he
  cases e<;>exact he
 | .ok (.row row args) w',h=>exact ⟨(fun h=>by cases h),rows_inW h⟩
 | .halt (.panic v) w',h=>exact h
def noDefer (l:List Oper):Bool:=l.all fun o=>match o.op with
 | .defer _=>false
 | _=>true
theorem list_inW {ro:Option Nat}{P:Program}{ops:Array Oper}{Q:Exit→Act→World→Prop}(hq:¬ LetsOut Q):∀ (l:List Oper) (a:Act) (w:World),noDefer l=true→wpList P ops Q l a w→wpListIn (inW ro) 0 P ops Q l a w:=by
 intro l
 induction l with
 | nil=>exact fun a w _ h=>h
 | cons o l ih =>
  intro a w hd h
  simp only [noDefer,List.all_cons,Bool.and_eq_true] at hd
  have hno:∀ c,o.op≠.defer c:=by
   intro c hc
   have:=hd.1
   rw [hc] at this
   cases this
  unfold wpList at h
  unfold wpListIn
  split
  ·rename_i hw
   rw [if_pos hw] at h
   have h:=h.resolve_right fun h=>hq h.2
   refine ⟨fun _ _=>trivial,?_⟩
   have e:o.semAt (inW ro).round a.eval=execOp a.eval o:=Oper.semAt_eq _ _ _ hno
   rw [e]
   unfold Oper.wp at h
   have mono:∀ r,o.upon P a (wpList P ops Q l) Q r→o.upon P a (wpListIn (inW ro) 0 P ops Q l) Q r:=by
    intro r hr
    match r,hr with
    | .ok (.value v) w',hr=>exact ih _ _ hd.2 hr
    | .ok .skip w',hr=>exact ih _ _ hd.2 hr
    | .ok (.defer _) w',hr=>exact ih _ _ hd.2 hr
    | .ok (.enter f args) w',hr =>
     refine Calls.mono' hr ?_
     intro e w'' he
     cases e with
     | returned v=>exact ih _ _ hd.2 he
     | panicked c=>exact he
     | outgrown=>exact he
    | .ok (.row row args) w',hr=>exact Rows.mono hr fun v w'' h=>ih _ _ hd.2 h
    | .halt (.panic v) w',hr=>exact hr
   exact upon_inW (mono _ h)
  ·rename_i hw
   rw [if_neg hw] at h
   exact ⟨fun _ _=>trivial,ih _ _ hd.2 h⟩
def YOk {A:Type}(P:Program)(l:Nat)(args:List Value)(Pre:List HP)(post:A→Value×List HP):Prop :=
 ∀ C w V,St C w (Pre++V)→∃ f tmps asn body,(Instr.yield l args.toArray).run P w=.ok (.round l f tmps asn body) w ∧
  RoundIn Fence.wide 0 P l f tmps asn body w (fun e w'=>∃ x,e=.returned (post x).1∧St C w' ((post x).2++V))
def WLI (P:Program)(N:Nn)(ops:Array Oper)(rest:List Oper)(Q:Exit→Env→World→Prop)(σ:Env)(w:World):Prop :=
 ∀ a:Act,a.tmps.size=N.n→a.defers=N.ds→envOf a=σ→wpListIn Fence.wide 0 P ops (lift N Q) rest a w
section
variable {X:Cx}{V:List HP}{σ:Env}{Q:Exit→Env→World→Prop}{ops:Array Oper}{rest:List Oper}
variable {d:Option Nat}{ty:TypeId}{pos:String}{af:Array Edge}{gd:Option (Nat×Bool)}
theorem noOut {N:Nn}{Q:Exit→Env→World→Prop}(h:∀ σ w,Q .outgrown σ w→False):¬ LetsOut (lift N Q):=by
 rintro ⟨a,w,q⟩
 exact h _ _ (lift_n q (by simp)).2.2
theorem c_regy {id:Nat}{l:List Oper}(k:Nat)(hd:noDefer (l.take k)=true)(hQ:∀ σ w,Q .outgrown σ w→False)
  (h:TL X l.toArray V σ (l.take k) (Then (fun σ w=>WLI X.P X.n l.toArray (l.drop k) Q σ w) Q)):TC X V σ (.region id l.toArray false) Q:=by
 intro w s a h1 h2 h3
 refine (wpIn_wide (n:=0)).1 (wpIn_region_lit ?_)
 have h:=list_inW (ro:=none) (noOut (N:=X.n) (Q:=Then (fun σ w=>WLI X.P X.n l.toArray (l.drop k) Q σ w) Q) hQ) _ a w hd (h w s a h1 h2 h3)
 have mono:∀ (l1:List Oper) (a:Act) (w:World),wpListIn Fence.wide 0 X.P l.toArray (lift X.n (Then (fun σ w=>WLI X.P X.n l.toArray (l.drop k) Q σ w) Q)) l1 a w→wpListIn Fence.wide 0 X.P l.toArray (lift X.n Q) (l1++l.drop k) a w:=by
  intro l1
  induction l1 with
  | nil =>
   intro a w h
   obtain ⟨q1,q2,q3⟩:=lift_n h (by simp)
   exact q3 a q1 q2 rfl
  | cons o l1 ih =>
   intro a w h
   have hq:∀ e,e≠Exit.normal→∀ a w,lift X.n (Then (fun σ w=>WLI X.P X.n l.toArray (l.drop k) Q σ w) Q) e a w→lift X.n Q e a w:=by
    intro e he a w q
    cases e with
    | normal=>exact absurd rfl he
    | _=>exact q
   unfold wpListIn at h
   show wpListIn Fence.wide 0 X.P l.toArray (lift X.n Q) (o::(l1++l.drop k)) a w
   unfold wpListIn
   split
   ·rename_i hw
    rw [if_pos hw] at h
    refine ⟨h.1,?_⟩
    have h:=h.2
    revert h
    generalize (o.semAt Fence.wide.round a.eval).run X.P w=r
    intro hr
    match r,hr with
    | .ok (.value v) w',hr=>exact ih _ _ hr
    | .ok .skip w',hr=>exact ih _ _ hr
    | .ok (.defer _) w',hr=>exact ih _ _ hr
    | .ok (.enter f args) w',hr =>
     refine ⟨hr.1,hr.2.mono ?_⟩
     intro e w'' he
     cases e with
     | returned v=>exact ih _ _ he
     | panicked c=>exact hq _ (by intro h; cases h) _ _ he
     | outgrown=>obtain ⟨b,u,hb⟩:=he; exact ⟨b,u,hq _ (by intro h; cases h) _ _ hb⟩
    | .ok (.row row args) w',hr=>exact ⟨hr.1,hr.2.mono fun v w'' h=>ih _ _ h⟩
    | .ok (.round l0 f tmps asn body) w',hr =>
     refine ⟨hr.1,hr.2.mono ?_⟩
     intro e w'' he
     cases e with
     | returned v=>exact ih _ _ he
     | panicked c=>exact hq _ (by intro h; cases h) _ _ he
     | outgrown=>obtain ⟨b,u,hb⟩:=he; exact ⟨b,u,hq _ (by intro h; cases h) _ _ hb⟩
    | .halt (.panic v) w',hr=>exact hq _ (by intro h; cases h) _ _ hr
   ·rename_i hw
    rw [if_neg hw] at h
    exact ⟨h.1,ih _ _ h.2⟩
 have:=mono _ a w h
 rw [List.take_append_drop] at this
 exact this
theorem q_yield {A:Type}{fv:Operand}{l:Nat}{xs:Array Operand}{ats:Array TypeId}{as:List Value}{post:A→Value×List HP}{Pre:List HP}{dd:Nat}(m:Nat)
  (hv:ev σ fv=.func (.yield l) #[] #[]) (ha:xs.toList.map (ev σ)=as) (hc:YOk X.P l as Pre post) (hV:tk m V=Pre) (hQ:∀ σ w,Q .outgrown σ w→False) (hd:noDefer rest=true)
  (k:∀ x,TL X ops ((post x).2++dp m V) (upd σ dd (post x).1) rest Q) (hdd:dok X.n (some dd)=true:=by exact rfl) :
  TQ X V σ .normal (Then (fun σ w=>WLI X.P X.n ops (⟨some dd,.call ⟨.value fv,xs,ats⟩,ty,pos,af,none⟩::rest) Q σ w) Q):=by
 intro w s a h1 h2 h3
 refine wpListIn_plain rfl fun K hK=>⟨fun _ _=>trivial,?_⟩
 rw [← tk_dp m V,hV] at s
 obtain ⟨f,tmps,asn,body,hy,hr⟩:=hc X.C w _ s
 have hr':(execOp (ev σ) ⟨some dd,.call ⟨.value fv,xs,ats⟩,ty,pos,af,none⟩).run X.P w=.ok (.round l f tmps asn body) w:=by
  have e:(#[]++xs.map (ev σ))=as.toArray:=by rw [arr_map xs _ ha]; simp
  simp only [execOp,resolve,hv,Deferred.ofValue,Sem.run_bind,Sem.run_pure,Result.andThen_ok,invoke,e,hy]
 rw [show Fence.wide.round=none from rfl,Oper.semAt_none,eval_env,h3,hr']
 refine ⟨(fun h=>by cases h),hr.mono ?_⟩
 rintro e w' ⟨x,rfl,s'⟩
 refine hK _ _ ?_
 obtain ⟨p1,p2,p3⟩:=put_facts (o:=⟨some dd,.call ⟨.value fv,xs,ats⟩,ty,pos,af,none⟩) hdd h1 h2 h3 (post x).1
 exact list_inW (ro:=none) (noOut hQ) _ _ _ hd (k x w' s' _ p1 p2 p3)
end
end Go.Pg
namespace Go.Pg
theorem St.dn {C w:World}{p:HP}{A V:List HP}(s:St C w (p::(A++V))):St C w (A++p::V):=by
 obtain ⟨q,I,h,g,j,lw,g1,g2,j1,c,d⟩:=s
 obtain ⟨k1,k2,j2,e1,e2⟩:=star_app.1 d
 obtain ⟨m,m1,m2⟩:=Join.assoc' j2.symm j1
 exact ⟨q,I,h,g,j,lw,star_app.2 ⟨k1,m,m2.symm,e1,g1,k2,m1,c,e2⟩⟩
theorem St.up {C w:World}{p:HP}{A V:List HP}(s:St C w (A++p::V)):St C w (p::(A++V)):=by
 obtain ⟨q,I,h,g,j,lw,d⟩:=s
 obtain ⟨k1,k2,j2,e1,g1,g2,j3,c,e2⟩:=star_app.1 d
 obtain ⟨m,m1,m2⟩:=Join.assoc' j3.symm j2
 exact ⟨q,I,h,g,j,lw,g1,m,m2.symm,c,star_app.2 ⟨k1,g2,m1,e1,e2⟩⟩
structure Rec (rc:Loop)(ps:Array Tmp)(asn body:Code)(n:Nat)(σ:Env):Prop where
 st:rc.state=.ready
 pe:rc.pending=none
 ps:rc.params=ps
 asn:rc.assign=asn
 body:rc.body=body
 sz:rc.tmps.size=n
 env:(fun t=>rc.tmps.getD t undef)=σ
def Mid (X:Cx)(σ2:Env)(V:List HP):Exit→Env→World→Prop
 | .normal,σ,w=>σ=σ2∧St X.C w V
 | _,_,_=>False
def RdQ (X:Cx)(go:Bool){A:Type}(f:A→List HP)(V:List HP):Exit→Env→World→Prop
 | .normal,_,w=>go=true∧∃ x,St X.C w (f x++V)
 | _,_,_=>False
theorem q_mid {X:Cx}{V:List HP}{σ:Env}:TQ X V σ .normal (Mid X σ V):=fun w s=>⟨rfl,s⟩
theorem q_rd {X:Cx}{A:Type}{f:A→List HP}{V0 V:List HP}{σ:Env}{go:Bool}(x:A)(hg:go=true)(h:∀ w,St X.C w V0→St X.C w (f x++V)):TQ X V0 σ .normal (RdQ X go f V):=fun w s=>⟨hg,x,h w s⟩
theorem rec_back {rc:Loop}{s:LoopState}(h1:rc.state=.ready)(h2:rc.pending=none):({{rc with state:=s} with state:=.ready,pending:=none}:Loop)=rc:=by
 cases rc; simp only at h1 h2; subst h1; subst h2; rfl
theorem yok {A:Type}{P:Program}{l:Nat}{rc:Loop}{p:Tmp}{n i1 b i2:Nat}{l1 l2:List Oper}{σ:Env}{x:Value}{go:Bool}(Bd Bd':A→List HP)
  (hr:Rec rc #[p] (.region i1 l1.toArray false) (.block b (.region i2 l2.toArray false)) n σ) (h1:noDefer l1=true) (h2:noDefer l2=true) (hp:Nat.blt p n=true)
  (walk:∀ a,∃ σ2,∀ C V,TL ⟨P,.of n,C⟩ l1.toArray (Bd a++V) (upd σ p x) l1 (Mid ⟨P,.of n,C⟩ σ2 (Bd a++V))∧TL ⟨P,.of n,C⟩ l2.toArray (Bd a++V) σ2 l2 (RdQ ⟨P,.of n,C⟩ go Bd' V)) :
  YOk P l [x] [pe fun a=>lpe l rc::Bd a] (fun _:Unit=>(.bool go,[pe fun a=>lpe l rc::Bd' a])):=by
 intro C w V s
 obtain ⟨a,s⟩:=s.peo
 have hl:=look_ob s 0 rfl
 refine ⟨rc.fn,_,rc.assign,rc.body,run_yield hl (by rw [hr.ps]; rfl),?_⟩
 rw [hr.asn,hr.body,hr.ps]
 have hfold:((#[p]:Array Tmp).zip [x].toArray).foldl (fun tmps (t,a)=>tmps.setIfInBounds t a) rc.tmps=rc.tmps.setIfInBounds p x:=by
  simp
 rw [hfold]
 have hsz:(rc.tmps.setIfInBounds p x).size=n:=by rw [Array.size_setIfInBounds,hr.sz]
 have hpn:p<rc.tmps.size:=by rw [hr.sz]; exact Nat.lt_of_lt_of_le (Nat.lt_succ_self _) (Nat.le_of_ble_eq_true hp)
 have henv:envOf {tmps:=rc.tmps.setIfInBounds p x,defers:=[]}=upd σ p x:=by
  have:=envOf_put {tmps:=rc.tmps,defers:=[]} (some p) x (fun d e=>by cases e; exact hpn)
  rw [show ({tmps:=rc.tmps,defers:=[]}:Act).put (some p) x={tmps:=rc.tmps.setIfInBounds p x,defers:=[]} from rfl] at this
  rw [this,← hr.env]
  rfl
 obtain ⟨σ2,wk⟩:=walk a
 have wa:=(wk C (lpe l rc::V)).1
 have wb:=(wk C (lpe l {rc with state:=.busy}::V)).2
 refine roundIn_of_wpIn trivial (n:=0) ?_
 have g1:=list_inW (ro:=some l) (noOut (N:=.of n) (Q:=Mid ⟨P,.of n,C⟩ σ2 (Bd a++lpe l rc::V)) fun _ _ h=>h) _ _ w h1 (wa w (St.dn s) _ hsz rfl henv)
 refine wpIn_mono (wpIn_region_lit g1) ?_
 rintro e a' w' q
 cases e with
 | normal =>
  obtain ⟨q1,q2,q3,q4⟩:=lift_n q (by simp)
  have q4:=St.up q4
  have hl':=look_ob q4 0 rfl
  refine ⟨_,run_beginRound hl' hr.st,?_⟩
  have s2:=St.dn (q4.putObj (o':=.loop {rc with state:=.busy}))
  have g2:=list_inW (ro:=some l) (noOut (N:=.of n) (Q:=RdQ ⟨P,.of n,C⟩ go Bd' (lpe l {rc with state:=.busy}::V)) fun _ _ h=>h) _ _ _ h2 (wb _ s2 _ q1 q2 q3)
  refine wpIn_block (wpIn_mono (wpIn_region_lit g2) ?_)
  rintro e a'' w'' q
  cases e with
  | normal =>
   obtain ⟨q1,q2,rfl,y,q3⟩:=lift_n q (by simp)
   have q3:=St.up q3
   have hl'':=look_ob q3 0 rfl
   refine ⟨_,_,run_endRound none hl'',(),rfl,?_⟩
   have s3:=q3.putObj (o':=.loop {{rc with state:=.busy} with state:=.ready,pending:=none})
   rw [rec_back hr.st hr.pe] at s3
   refine Eq.mp (congrArg (fun o=>St C (w''.putObj l o) (pe (fun a=>lpe l rc::Bd' a)::V)) ?_) (St.pei y s3)
   exact (congrArg Obj.loop (rec_back (s:=.busy) hr.st hr.pe)).symm
  | ret=>rcases q with ⟨_,_,q⟩|⟨_,q⟩<;>exact q.elim
  | _=>exact (lift_n q (by simp)).2.2.elim
 | ret=>rcases q with ⟨_,_,q⟩|⟨_,q⟩<;>exact q.elim
 | _=>exact (lift_n q (by simp)).2.2.elim
def tmpsOnly (fn:Func):Bool:=fn.results.toList.all fun r=>match r with
 | .tmp _=>true
 | _=>false
theorem results_still {fn:Func}{σ:Env}{P:Program}{w w':World}{v:Value}(ht:tmpsOnly fn=true)(h:(resultsE fn σ).run P w=.ok v w):(resultsE fn σ).run P w'=.ok v w':=by
 unfold resultsE at h ⊢
 obtain ⟨rs,hrs⟩:∃ rs:List ResultVar,fn.results=rs.toArray:=⟨fn.results.toList,by simp⟩
 rw [hrs,List.mapM_toArray] at h ⊢
 unfold tmpsOnly at ht
 rw [hrs] at ht
 have key:∀ (rs:List ResultVar),rs.all (fun r=>match r with | .tmp _=>true | _=>false)=true→∃ vs,∀ w,(rs.mapM (fun | .tmp t=>pure (σ t) | .cell a t=>do loadVar t (← asAddr (σ a)):ResultVar→Sem Value)).run P w=.ok vs w:=by
  intro rs
  induction rs with
  | nil=>exact fun _=>⟨[],fun _=>rfl⟩
  | cons r rs ih =>
   intro h
   simp only [List.all_cons,Bool.and_eq_true] at h
   obtain ⟨vs,hvs⟩:=ih h.2
   cases r with
   | tmp t=>exact ⟨σ t::vs,fun w=>by simp [List.mapM_cons,hvs]⟩
   | cell a t=>cases h.1
 obtain ⟨vs,hvs⟩:=key rs (by simpa using ht)
 simp only [Sem.run_bind,Sem.run_map] at h ⊢
 have e1:=hvs w
 have e2:=hvs w'
 refine (congrArg (fun r=>Result.andThen (Result.andThen r _) _) e2).trans ?_
 have h:=(congrArg (fun r=>Result.andThen (Result.andThen r _) _) e1).symm.trans h
 simp only [Result.andThen_ok,Sem.run_pure] at h ⊢
 cases h
 rfl
abbrev markOf (D:Nat):Deferred:={target:=.collected D,args:=#[]}
def Alt {A:Type}(P:Program)(fn:Func)(C:World)(V:List HP)(post:A→Value×List HP):Act→World→Prop :=
 fun a w=>LeavesInM Fence.wide 0 P fn a.tmps (fun e w'=>∃ x,e=.returned (post x).1∧St C w' ((post x).2++V)) a.defers .returning w
theorem fn_okm {A:Type}{P:Program}{f:FuncId}{fn:Func}{c:Code}{args:List Value}{Pre:List HP}{post:A→Value×List HP}(hf:P.funcs[f]?=some fn)(hb:fn.body=some c)(n:Nat)(hn0:fn.ntmps=n)(hn:Nat.ble args.length n=true)
  (h:∀ C V,TC ⟨P,⟨n,[],Alt P fn C V post⟩,C⟩ (Pre++V) (env0 args.toArray) c (Ends P fn (Fin ⟨P,⟨n,[],Alt P fn C V post⟩,C⟩ V post))):FnOk P f args Pre post:=by
 subst hn0
 intro C w V s
 refine callsIn_wide.1 (callsIn_of_wp_marks (n:=0) hf hb trivial ?_)
 have hn:args.toArray.size≤fn.ntmps:=by have:=Nat.le_of_ble_eq_true hn; simpa using this
 refine (wpIn_wide (n:=0)).2 (wp_mono (h C V w s _ (by simp at hn ⊢; omega) rfl env0_eq) ?_)
 rintro e a w' q
 rcases q with ⟨q1,q2,q3⟩|⟨rfl,q⟩
 ·have fin:∀ v,(resultsE fn (envOf a)).run P w'=.ok v w'→Fin ⟨P,⟨fn.ntmps,[],Alt P fn C V post⟩,C⟩ V post v w'→LeavesInM Fence.wide 0 P fn a.tmps (fun e w'=>∃ x,e=.returned (post x).1∧St C w' ((post x).2++V)) a.defers .returning w':=by
   rintro v hr ⟨x,rfl,s'⟩
   rw [q2]
   exact ⟨_,hr,x,rfl,s'⟩
  cases e with
  | normal =>
   obtain ⟨v,hr,hR⟩:=q3
   exact fin v hr hR
  | ret =>
   obtain ⟨v,hr,hR⟩:=q3
   exact fin v hr hR
  | _=>exact q3.elim
 ·exact q
def EndsR (P:Program)(fn:Func)(R:Value→World→Prop):Exit→Env→World→Prop
 | .ret,σ,w=>∃ v,(resultsE fn σ).run P w=.ok v w∧R v w
 | _,_,_=>False
theorem q_endr {A:Type}{X X':Cx}{V V0:List HP}{σ:Env}{post:A→Value×List HP}{P:Program}{fn:Func}(h:TQ X V σ .ret (Ends P fn (Fin X' V0 post))):TQ X V σ .ret (EndsR P fn (Fin X' V0 post)):=fun w s=>h w s
def Rg (X:Cx)(rf rest:Code)(Q:Exit→Env→World→Prop):Env→World→Prop:=fun σ w =>
 ∀ a:Act,a.tmps.size=X.n.n→a.defers=X.n.ds→envOf a=σ→rf.wp X.P (Exit.then (rest.wp X.P (lift X.n Q)) (lift X.n Q)) a w
theorem c_rseq {X:Cx}{V:List HP}{σ:Env}{Q:Exit→Env→World→Prop}{c0 rf rest:Code}(h:TC X V σ c0 (Then (Rg X rf rest Q) Q)):TC X V σ (.seq (.seq c0 rf) rest) Q:=by
 intro w s a h1 h2 h3
 refine wp_seq (wp_seq (wp_mono (h w s a h1 h2 h3) ?_))
 rintro e a' w' q
 cases e with
 | normal =>
  obtain ⟨q1,q2,q3⟩:=lift_n q (by simp)
  exact q3 a' q1 q2 rfl
 | _=>exact q
theorem q_range {A B H:Type}{P:Program}{n:Nat}{fn:Func}{C:World}{V:List HP}{post:A→Value×List HP}{Vc:List HP}{σ:Env}{Q:Exit→Env→World→Prop}{id:Nat}{g:Operand}{ps:Array Tmp}{asn body rest:Code}{gf:Nat}{lb:List Value}
  (Wc:List HP) (E E':Nat→Loop→HP) (Pre' W3:List HP) (cp:B→List HP) (Wd:H→List HP)
  (hV:Vc=Wc++V) (hg:ev σ g=.func (.func gf) #[] lb.toArray) (hcb:callB P gf=true)
  (hin:∀ V w l rc,St C w (lpe l rc::(Wc++V))→St C w (E l rc::(Pre'++(W3++V))))
  (hcall:∀ l rc,Rec rc ps asn body n σ→FnOk P gf (.func (.yield l) #[] #[]::lb) (E l rc::Pre') (fun x:B=>(.tuple [].toArray,E' l rc::cp x)))
  (hout:∀ V w l rc x,St C w (E' l rc::(cp x++(W3++V)))→∃ y,St C w (lpe l rc::(Wd y++V)))
  (ht:tmpsOnly fn=true)
  (hk:∀ y D V,TC ⟨P,⟨n,[markOf D],fun _ _=>False⟩,C⟩ (Wd y++V) σ rest (EndsR P fn (Fin ⟨P,⟨n,[markOf D],fun _ _=>False⟩,C⟩ V post))) :
  TQ ⟨P,⟨n,[],Alt P fn C V post⟩,C⟩ Vc σ .normal (Then (Rg ⟨P,⟨n,[],Alt P fn C V post⟩,C⟩ (.block id (.rangeFunc g ps asn body)) rest (Ends P fn (Fin ⟨P,⟨n,[],Alt P fn C V post⟩,C⟩ V post))) Q):=by
 intro w s a h1 h2 h3
 subst hV
 refine wp_block ((wpIn_wide (n:=0)).1 (wpIn_rangeFunc ?_))
 intro fnid _
 obtain ⟨rc,hrc⟩:∃ rc:Loop,rc={state:=.ready,pending:=none,fn:=fnid,tmps:=a.tmps,params:=ps,assign:=asn,body:=body,defers:=w.heap.size}:=⟨_,rfl⟩
 have hrec:Rec rc ps asn body n σ:=by
  subst hrc
  exact ⟨rfl,rfl,rfl,rfl,rfl,h1,h3⟩
 have s1:=St.dn (St.newOb s (.deferred (some [])))
 have s2:=St.newOb s1 (.loop rc)
 rw [World.size_alloc] at s2
 obtain ⟨W1,hW1⟩:∃ W1,(w.alloc (.deferred (some []))).alloc (.loop rc)=W1:=⟨_,rfl⟩
 rw [hW1] at s2
 refine ⟨w.heap.size+1,[markOf w.heap.size],W1,{target:=.fn (.func gf) lb.toArray,args:=#[.func (.yield (w.heap.size+1)) #[] #[]]},W1,gf,
  #[.func (.yield (w.heap.size+1)) #[] #[]]++lb.toArray,W1,?_,?_,fun _ _=>trivial,?_,fun h=>(by cases h),?_⟩
 ·rw [← hW1,hrc]; exact run_enterLoop_outer _ _ _ _ _
 ·have:a.eval g=.func (.func gf) #[] lb.toArray:=by rw [eval_env,h3]; exact hg
  simp only [resolve,this]
  simp [go_sem]
 ·simp [invoke,go_sem,run_callFunc hcb]
 ·refine callsIn_wide.2 ?_
  have hc:=hcall (w.heap.size+1) rc hrec C W1 _ (hin _ _ _ _ s2)
  have e:(Value.func (.yield (w.heap.size+1)) #[] #[]::lb).toArray=#[Value.func (.yield (w.heap.size+1)) #[] #[]]++lb.toArray:=by
   apply Array.ext'; simp
  rw [e] at hc
  refine Calls.mono' hc ?_
  rintro e w2 ⟨x,rfl,s3⟩
  obtain ⟨y,s4⟩:=hout _ _ _ _ x s3
  have hl:=look_ob s4 0 rfl
  refine ⟨none,w2.putObj (w.heap.size+1) (.loop {rc with state:=.exhausted}),?_,?_⟩
  ·have:=run_endLoop (P:=P) hl (by rw [hrec.st]; simp)
   exact this.trans (by rw [hrec.pe])
  ·have s5:=(s4.putObj (o':=.loop {rc with state:=.exhausted})).rm 0
   refine wp_mono (hk y w.heap.size _ _ s5 _ h1 (by rw [h2]; rfl) h3) ?_
   rintro e a5 w5 q
   rcases q with ⟨q1,q2,q3⟩|⟨_,q⟩
   ·cases e with
    | ret =>
     obtain ⟨v,hr,x,rfl,s6⟩:=q3
     refine .inr ⟨rfl,?_⟩
     have s6:=St.up s6
     show LeavesInM Fence.wide 0 P fn a5.tmps _ a5.defers .returning w5
     rw [q2]
     exact ⟨by simp,.inl ⟨_,_,rfl,run_takeDeferred (look_ob s6 0 rfl),_,results_still ht hr,x,rfl,(s6.putObj (o':=.deferred none)).rm 0⟩⟩
    | _=>exact q3.elim
   ·exact q.elim
end Go.Pg
