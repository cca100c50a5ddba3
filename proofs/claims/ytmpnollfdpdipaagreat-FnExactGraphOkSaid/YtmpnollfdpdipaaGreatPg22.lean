import Derived.Test.YtmpnollfdpdipaaGreatPg21
set_option linter.unusedVariables false
namespace Go.Pg
abbrev sc {α:Type}(a:Option Addr)(xs:List α)(c:Nat):Value:=.slice a xs.length c
abbrev il {α:Type}(xs:List α):Value:=.int .i64 xs.length
abbrev HH:Type:=Option Addr×Nat×Nat
theorem R {α:Sort _}{a:α}:a=a:=rfl
theorem so {α:Type _}{a b:α}(h:some a=some b):a=b:=Option.some.inj h
theorem bo (b:Bool):b=true∨b=false:=Bool.eq_false_or_eq_true b
theorem oT {c a:Bool}(h:c=true):(c||a)=true:=by rw [h]; rfl
theorem aF {c a:Bool}(h:c=false):(c&&a)=false:=by rw [h]; rfl
def up:Nat→Nat→List Nat
 | _,0=>[]
 | a,n+1=>a::up (a+1) n
def rg:List Nat→List Nat
 | a::n::t=>up a n++rg t
 | _=>[]
theorem St.d {α:Type}{K:Kind α}{C w:World}{V:List HP}{v:Value}{xs:List α}(s:St C w V)(i:Nat)(hV:lk V i=rds K v xs):St C w (rds K v xs::V):=s.dup i hV
theorem St.e {C w:World}{V:List HP}(s:St C w V)(n:Nat)(is:List Nat)(h:selB n is=true:=by exact rfl)(hn:geB n V=true:=by exact rfl):St C w (is.map (lk V)++dp n V):=s.sel n is h hn
theorem St.f {C w:World}{V:List HP}(s:St C w V)(n:Nat)(is:List Nat)(h:selB n (rg is)=true:=by exact rfl)(hn:geB n V=true:=by exact rfl):St C w ((rg is).map (lk V)++dp n V):=s.sel n (rg is) h hn
theorem aS {σ:Env}:∀ {l:List (Nat×Value)},l.map (fun p=>σ p.1)=l.map Prod.snd→AllS σ l
 | [],_=>trivial
 | (_,_)::_,h=>⟨(List.cons.inj h).1,aS (List.cons.inj h).2⟩
section
variable {X:Cx}{V V0:List HP}{σ:Env}{Q:Exit→Env→World→Prop}{ops:Array Oper}{rest:List Oper}{o:Oper}{k fuel:Nat}{listed:Array Bool}{C:World}
variable {d:Nat}{d':Option Nat}{op:Op}{ty:TypeId}{pos:String}{af:Array Edge}{gd:Option (Nat×Bool)}{v:Value}
theorem vz (v:Value)(h:VO X V σ o v):VO X V σ o v:=h
theorem vp (v:Value)(h:pv σ op=some v):VO X V σ ⟨d',op,ty,pos,af,gd⟩ v:=v_pv h
theorem vI {i:IntKind}{n:Int}(h:pv σ op=some (.int i n)):VO X V σ ⟨d',op,ty,pos,af,gd⟩ (.int i n):=v_pv h
theorem vB {n:Bool}(h:pv σ op=some (.bool n)):VO X V σ ⟨d',op,ty,pos,af,gd⟩ (.bool n):=v_pv h
theorem vS {a:Option Addr}{n c:Nat}(h:pv σ op=some (.slice a n c)):VO X V σ ⟨d',op,ty,pos,af,gd⟩ (.slice a n c):=v_pv h
theorem vP {b n:Nat}(h:pv σ op=some (.pointer (some ⟨b,n,none⟩))):VO X V σ ⟨d',op,ty,pos,af,gd⟩ (.pointer (some ⟨b,n,none⟩)):=v_pv h
theorem vA {l:List Value}(h:pv σ op=some (.agg l.toArray)):VO X V σ ⟨d',op,ty,pos,af,gd⟩ (.agg l.toArray):=v_pv h
theorem vT {l:List Value}(h:pv σ op=some (.tuple l.toArray)):VO X V σ ⟨d',op,ty,pos,af,gd⟩ (.tuple l.toArray):=v_pv h
theorem i_of {x y:Operand}{t yt:TypeId}{b:BinOp}{m n:Int}(hx:ev σ x=.int .i64 m)(hy:ev σ y=.int .i64 n)(h:ibin .i64 b m n=some v):VO X V σ ⟨d',.binOp b t x y yt,ty,pos,af,gd⟩ v:=v_pv (by simp only [pv,hx,hy]; exact h)
theorem vAd {x y:Operand}{t yt:TypeId}{m n:Int}(hx:ev σ x=.int .i64 m)(hy:ev σ y=.int .i64 n):VO X V σ ⟨d',.binOp .add t x y yt,ty,pos,af,gd⟩ (.int .i64 (w64 (m+n))):=i_of hx hy rfl
theorem vSb {x y:Operand}{t yt:TypeId}{m n:Int}(hx:ev σ x=.int .i64 m)(hy:ev σ y=.int .i64 n):VO X V σ ⟨d',.binOp .sub t x y yt,ty,pos,af,gd⟩ (.int .i64 (w64 (m - n))):=i_of hx hy rfl
theorem vMu {x y:Operand}{t yt:TypeId}{m n:Int}(hx:ev σ x=.int .i64 m)(hy:ev σ y=.int .i64 n):VO X V σ ⟨d',.binOp .mul t x y yt,ty,pos,af,gd⟩ (.int .i64 (w64 (m*n))):=i_of hx hy rfl
theorem vLt {x y:Operand}{t yt:TypeId}{m n:Int}(hx:ev σ x=.int .i64 m)(hy:ev σ y=.int .i64 n):VO X V σ ⟨d',.binOp .lss t x y yt,ty,pos,af,gd⟩ (.bool (decide (m<n))):=i_of hx hy rfl
theorem vLe {x y:Operand}{t yt:TypeId}{m n:Int}(hx:ev σ x=.int .i64 m)(hy:ev σ y=.int .i64 n):VO X V σ ⟨d',.binOp .leq t x y yt,ty,pos,af,gd⟩ (.bool (decide (m≤n))):=i_of hx hy rfl
theorem vGt {x y:Operand}{t yt:TypeId}{m n:Int}(hx:ev σ x=.int .i64 m)(hy:ev σ y=.int .i64 n):VO X V σ ⟨d',.binOp .gtr t x y yt,ty,pos,af,gd⟩ (.bool (decide (m>n))):=i_of hx hy rfl
theorem vGe {x y:Operand}{t yt:TypeId}{m n:Int}(hx:ev σ x=.int .i64 m)(hy:ev σ y=.int .i64 n):VO X V σ ⟨d',.binOp .geq t x y yt,ty,pos,af,gd⟩ (.bool (decide (m≥n))):=i_of hx hy rfl
theorem vEq {x y:Operand}{t yt:TypeId}{m n:Int}(hx:ev σ x=.int .i64 m)(hy:ev σ y=.int .i64 n):VO X V σ ⟨d',.binOp .eql t x y yt,ty,pos,af,gd⟩ (.bool (m==n)):=i_of hx hy rfl
theorem vNe {x y:Operand}{t yt:TypeId}{m n:Int}(hx:ev σ x=.int .i64 m)(hy:ev σ y=.int .i64 n):VO X V σ ⟨d',.binOp .neq t x y yt,ty,pos,af,gd⟩ (.bool (m != n)):=i_of hx hy rfl
theorem vNo {x:Operand}{t:TypeId}{b:Bool}(hx:ev σ x=.bool b):VO X V σ ⟨d',.unOp .not t x,ty,pos,af,gd⟩ (.bool !b):=v_pv (by simp only [pv,hx])
theorem vFa (k2:Nat){S:TypeId}{x:Operand}{f fo b k:Nat}(hf:fieldB X.P S f=some fo)(hx:ev σ x=.pointer (some ⟨b,k,none⟩))(he:k+fo=k2:=by exact rfl):VO X V σ ⟨d',.fieldAddr S x f,ty,pos,af,gd⟩ (.pointer (some ⟨b,k2,none⟩)):=v_fa hf hx he
theorem vLd {T:TypeId}{x:Operand}{b k:Nat}{cs:List Value}{T0:Nat}{v:Value}(i:Nat)(ha:aggB X.P T=some false)(hV:lk V i=bxl b cs T0)(hx:ev σ x=.pointer (some ⟨b,k,none⟩))(hc:nth cs k=some v):VO X V σ ⟨d',.load T x,ty,pos,af,gd⟩ v:=v_load i ha hV hx hc
theorem vIa {t e:TypeId}{x y:Operand}{g o n c sz:Nat}{k:IntKind}{j:Int}(ht:slB X.P t=some e)(hs:szB X.P e=some sz)(hx:ev σ x=.slice (some ⟨g,o,none⟩) n c)(hy:ev σ y=.int k j)(h:0≤j∧j<n):VO X V σ ⟨d',.indexAddr t x y,ty,pos,af,gd⟩ (.pointer (some ⟨g,o+j.toNat*sz,none⟩)):=v_iaddr ht hs hx hy h.1 h.2
theorem vLi {T:TypeId}{x:Operand}{g o n c:Nat}{xs:List Int}{j:Int}(i:Nat)(ha:aggB X.P T=some false)(hV:Sees (lk V i) (Kind.int .i64) (.slice (some ⟨g,o,none⟩) n c) xs)(hx:ev σ x=.pointer (some ⟨g,o+j.toNat*1,none⟩))(h:0≤j∧j<n):VO X V σ ⟨d',.load T x,ty,pos,af,gd⟩ (.int .i64 (ix xs j)) :=
 v_lde (K:=Kind.int .i64) (fo:=0) (pr:=fun x=>.int .i64 x) i j ha ((DecK.scal _ _).leaf fun _ _=>rfl) hV hx h.1 h.2
theorem pOF {c b:Bool}{x y z:Operand}(hx:ev σ x=.bool c)(h:c=false)(hz:ev σ z=.bool b):VO X V σ ⟨d',.pick x y z,ty,pos,af,gd⟩ (.bool (c||b)):=v_pickF hx h hz (vb (by rw [h]; rfl))
theorem pOT {c:Bool}{x y z:Operand}(b:Bool)(hx:ev σ x=.bool c)(h:c=true)(hy:ev σ y=.bool true:=by exact rfl):VO X V σ ⟨d',.pick x y z,ty,pos,af,gd⟩ (.bool (c||b)):=v_pickT hx h hy (vb (by rw [h]; rfl))
theorem pAT {c b:Bool}{x y z:Operand}(hx:ev σ x=.bool c)(h:c=true)(hy:ev σ y=.bool b):VO X V σ ⟨d',.pick x y z,ty,pos,af,gd⟩ (.bool (c&&b)):=v_pickT hx h hy (vb (by rw [h]; rfl))
theorem pAF {c:Bool}{x y z:Operand}(b:Bool)(hx:ev σ x=.bool c)(h:c=false)(hz:ev σ z=.bool false:=by exact rfl):VO X V σ ⟨d',.pick x y z,ty,pos,af,gd⟩ (.bool (c&&b)):=v_pickF hx h hz (vb (by rw [h]; rfl))
theorem wnT {j:Nat}{c:Bool}(e:c=true)(h:o.guard=some (j,true):=by exact rfl)(hg:gval ops σ j=some c:=by exact rfl):want ops σ o=true:=want_on h hg e
theorem wnF {j:Nat}{c:Bool}(e:c=false)(h:o.guard=some (j,false):=by exact rfl)(hg:gval ops σ j=some c:=by exact rfl):want ops σ o=true:=want_on h hg e
theorem lO (hv:VO X V σ ⟨some d,op,ty,pos,af,gd⟩ v)(h:TL X ops V (upd σ d v) rest Q)(hw:want ops σ ⟨some d,op,ty,pos,af,gd⟩=true:=by exact rfl)(hd:dok X.n (some d)=true:=by exact rfl):TL X ops V σ (⟨some d,op,ty,pos,af,gd⟩::rest) Q:=l_v v hv hw hd h
theorem lW (hw:want ops σ ⟨some d,op,ty,pos,af,gd⟩=true)(hv:VO X V σ ⟨some d,op,ty,pos,af,gd⟩ v)(h:TL X ops V (upd σ d v) rest Q)(hd:dok X.n (some d)=true:=by exact rfl):TL X ops V σ (⟨some d,op,ty,pos,af,gd⟩::rest) Q:=l_v v hv hw hd h
theorem lI {i:IntKind}{n:Int}(hv:pv σ op=some (.int i n))(h:TL X ops V (upd σ d (.int i n)) rest Q)(hw:want ops σ ⟨some d,op,ty,pos,af,gd⟩=true:=by exact rfl)(hd:dok X.n (some d)=true:=by exact rfl):TL X ops V σ (⟨some d,op,ty,pos,af,gd⟩::rest) Q:=l_v _ (v_pv hv) hw hd h
theorem lB {n:Bool}(hv:pv σ op=some (.bool n))(h:TL X ops V (upd σ d (.bool n)) rest Q)(hw:want ops σ ⟨some d,op,ty,pos,af,gd⟩=true:=by exact rfl)(hd:dok X.n (some d)=true:=by exact rfl):TL X ops V σ (⟨some d,op,ty,pos,af,gd⟩::rest) Q:=l_v _ (v_pv hv) hw hd h
theorem lS {a:Option Addr}{n c:Nat}(hv:pv σ op=some (.slice a n c))(h:TL X ops V (upd σ d (.slice a n c)) rest Q)(hw:want ops σ ⟨some d,op,ty,pos,af,gd⟩=true:=by exact rfl)(hd:dok X.n (some d)=true:=by exact rfl):TL X ops V σ (⟨some d,op,ty,pos,af,gd⟩::rest) Q:=l_v _ (v_pv hv) hw hd h
theorem lP {b n:Nat}(hv:pv σ op=some (.pointer (some ⟨b,n,none⟩)))(h:TL X ops V (upd σ d (.pointer (some ⟨b,n,none⟩))) rest Q)(hw:want ops σ ⟨some d,op,ty,pos,af,gd⟩=true:=by exact rfl)(hd:dok X.n (some d)=true:=by exact rfl):TL X ops V σ (⟨some d,op,ty,pos,af,gd⟩::rest) Q:=l_v _ (v_pv hv) hw hd h
theorem dR (i:Nat)(hi:ops[i]?=some ⟨some d,op,ty,pos,af,gd⟩)(hv:VO X V0 σ ⟨some d,op,ty,pos,af,gd⟩ v)(h:TD X ops k V0 fuel (listed.setIfInBounds i true) V (upd σ d v) Q)(hw:want ops σ ⟨some d,op,ty,pos,af,gd⟩=true:=by exact rfl)(hd:dok X.n (some d)=true:=by exact rfl)
  (hik:Nat.blt i k=true:=by exact rfl) (ht:tailB ops k=true:=by assumption) (hn:Region.noSelect ops=true:=by assumption) (hf:(Region.free .any ops listed i&&(Region.ready .any ops listed).contains i)=true:=by kernel_rfl) (hS:∀ w,St X.C w V→St X.C w V0:=by exact sL []):TD X ops k V0 (fuel+1) listed V σ Q :=
 d_v i v hi hv hw hd hik ht hn hf hS h
theorem dW (i:Nat)(hi:ops[i]?=some ⟨some d,op,ty,pos,af,gd⟩)(hw:want ops σ ⟨some d,op,ty,pos,af,gd⟩=true)(hv:VO X V0 σ ⟨some d,op,ty,pos,af,gd⟩ v)(h:TD X ops k V0 fuel (listed.setIfInBounds i true) V (upd σ d v) Q)(hd:dok X.n (some d)=true:=by exact rfl)
  (hik:Nat.blt i k=true:=by exact rfl) (ht:tailB ops k=true:=by assumption) (hn:Region.noSelect ops=true:=by assumption) (hf:(Region.free .any ops listed i&&(Region.ready .any ops listed).contains i)=true:=by kernel_rfl) (hS:∀ w,St X.C w V→St X.C w V0:=by exact sL []):TD X ops k V0 (fuel+1) listed V σ Q :=
 d_v i v hi hv hw hd hik ht hn hf hS h
theorem qF {A:Type}{post:A→Value×List HP}{fn:Func}{t:Nat}{e:Exit}(x:A)(hs:∀ w,St X.C w V→St X.C w ((post x).2++V0))(he:(e=.ret∨e=.normal):=by first | exact .inl rfl | exact .inr rfl)(hr:fn.results=#[.tmp t]:=by exact rfl)(hv:σ t=(post x).1:=by exact rfl) :
  TQ X V σ e (Ends X.P fn (Fin X V0 post)):=q_fin (rs:=[.tmp t]) (vs:=[(post x).1]) he x hr ⟨hv,trivial⟩ rfl hs
theorem lN (V:List HP)(h:TL X ops V σ rest Q):TL X ops V σ rest Q:=h
theorem cN {cd:Code}(V:List HP)(h:TC X V σ cd Q):TC X V σ cd Q:=h
theorem qN {e:Exit}(V:List HP)(h:TQ X V σ e Q):TQ X V σ e Q:=h
theorem lM (V':List HP)(f:∀ w,St X.C w V→St X.C w V')(h:TL X ops V' σ rest Q):TL X ops V σ rest Q:=l_st f h
theorem cM {cd:Code}(V':List HP)(f:∀ w,St X.C w V→St X.C w V')(h:TC X V' σ cd Q):TC X V σ cd Q:=c_st f h
theorem qM {e:Exit}(V':List HP)(f:∀ w,St X.C w V→St X.C w V')(h:TQ X V' σ e Q):TQ X V σ e Q:=q_st f h
theorem lBx {T:TypeId}{x:Operand}{l:List Value}(hx:ev σ x=.agg l.toArray)(h:∀ b,TL X ops (bxl b l T::V) (updo σ d' (.pointer (some ⟨b,0,none⟩))) rest Q)(hd:dok X.n d'=true:=by exact rfl)(hw:want ops σ ⟨d',.box T x,ty,pos,af,gd⟩=true:=by exact rfl):TL X ops V σ (⟨d',.box T x,ty,pos,af,gd⟩::rest) Q :=
 l_box hd hw (by rw [hx]; rfl) h
theorem lC {A:Type}{f:FuncId}{xs:Array Operand}{ats:Array TypeId}{as:List Value}{Pre:List HP}{post:A→Value×List HP}(m:Nat)(hf:callB X.P f=true)(ha:xs.toList.map (ev σ)=as)(hc:FnOk X.P f as Pre post)(hV:tk m V=Pre)(k:∀ x,TL X ops ((post x).2++dp m V) (updo σ d' (post x).1) rest Q)
  (hd:dok X.n d'=true:=by exact rfl) (hw:want ops σ ⟨d',.call ⟨.value (.func f),xs,ats⟩,ty,pos,af,gd⟩=true:=by exact rfl):TL X ops V σ (⟨d',.call ⟨.value (.func f),xs,ats⟩,ty,pos,af,gd⟩::rest) Q :=
 l_calln m hd hw hf ha hc hV k
theorem cQ {x:Code}(sl:List (Nat×Value))(Vf:List HP)(hx:TC X V σ x (Then (Jn X (fun _:Unit×Unit=>True) (fun _=>sl) (fun _=>Vf)) Q))(hy:∀ σ',TQ X Vf (updl σ' sl) .normal Q):TC X V σ x Q:=c_cutq _ _ _ hx (fun _ σ' _=>hy σ')
theorem qI {A:Type}{pf:A→Prop}{sl:A→List (Nat×Value)}{Vf:A→List HP}(a:A)(h0:pf a)(h2:∀ w,St X.C w V→St X.C w (Vf a))(h1:AllS σ (sl a):=by exact aS R):TQ X V σ .normal (Then (Jn X pf sl Vf) Q):=q_join a h0 h1 h2
theorem qA {S E A:Type}{sl:S→A→List (Nat×Value)}{Vf:S→A→List HP}{s:S}(a:A)(h2:∀ w,St X.C w V→St X.C w (Vf s a))(h1:AllS σ (sl s a):=by exact aS R):TQ X V σ .normal (Then (Nxt X (E:=E) (.inl s) sl Vf) Q):=q_again a h1 h2
theorem cL {α:Type}{K:Kind α}{a:Option Addr}{n c:Nat}{xs:List α}{cd:Code}(i:Nat)(hV:Sees (lk V i) K (.slice a n c) xs)(h:n=xs.length→TC X V σ cd Q):TC X V σ cd Q:=c_len i hV h
end
end Go.Pg
