import Derived.Test.YtmpnollfdpdipaaGreatPg20
set_option linter.unusedVariables false
namespace Go.Pg
structure Hd (H:Prop):Prop where
  h:H
class HSl (P:Program)(t:TypeId)(e:outParam TypeId):Prop where
  h:slB P t=some e
class HSz (P:Program)(t:TypeId)(z:outParam Nat):Prop where
  h:szB P t=some z
class HAg (P:Program)(t:TypeId)(b:outParam Bool):Prop where
  h:aggB P t=some b
class HFo (P:Program)(S:TypeId)(f:Nat)(o:outParam Nat):Prop where
  h:fieldB P S f=some o
abbrev s3 (h:HH):Value:=.slice h.1 h.2.1 h.2.2
def InV (V:List HP)(q:HP):Prop:=∃ i,lk V i=q
theorem in0 {V:List HP}{q:HP}:InV (q::V) q:=⟨0,rfl⟩
theorem inS {V:List HP}{p q:HP}(h:InV V q):InV (p::V) q:=h.elim fun i h=>⟨i+1,h⟩
def SeI {α:Type}(V:List HP)(K:Kind α)(v:Value)(xs:List α):Prop:=∃ i,Sees (lk V i) K v xs
theorem sio {α:Type}{V:List HP}{K:Kind α}{e:Nat}{v:Value}{xs:List α}:SeI (ow K e v xs::V) K v xs:=⟨0,sees_ow⟩
theorem sir {α:Type}{V:List HP}{K:Kind α}{v:Value}{xs:List α}:SeI (rds K v xs::V) K v xs:=⟨0,sees_rd⟩
theorem siS {α:Type}{V:List HP}{p:HP}{K:Kind α}{v:Value}{xs:List α}(h:SeI V K v xs):SeI (p::V) K v xs:=h.elim fun i h=>⟨i+1,h⟩
structure Tk (i:Nat)(rs:List Nat):Prop where
section
variable {P:Program}{N:Nn}{C:World}{X:Cx}{V V0:List HP}{σ:Env}{Q:Exit→Env→World→Prop}{ops:Array Oper}{rest:List Oper}{o:Oper}{k fuel:Nat}{listed:Array Bool}
variable {d:Nat}{d':Option Nat}{op:Op}{ty:TypeId}{pos:String}{af:Array Edge}{gd:Option (Nat×Bool)}{v:Value}{x y:Code}
theorem vLn {t:TypeId}{x:Operand}{a:Option Addr}{n c:Nat}{e:TypeId}[s:HSl P t e](hx:ev σ x=.slice a n c):VO ⟨P,N,C⟩ V σ ⟨d',.call ⟨.builtin .len,#[x],#[t]⟩,ty,pos,af,gd⟩ (.int .i64 n):=v_len s.h hx
theorem vFn {S:TypeId}{x:Operand}{f fo b k k2:Nat}[s:HFo P S f fo](hx:ev σ x=.pointer (some ⟨b,k,none⟩))(he:k+fo=k2):VO ⟨P,N,C⟩ V σ ⟨d',.fieldAddr S x f,ty,pos,af,gd⟩ (.pointer (some ⟨b,k2,none⟩)):=v_fa s.h hx he
theorem vIn {t e:TypeId}{x y:Operand}{g o n c sz:Nat}{k:IntKind}{j:Int}[s:HSl P t e][z:HSz P e sz](hx:ev σ x=.slice (some ⟨g,o,none⟩) n c)(hy:ev σ y=.int k j)(h:0≤j∧j<n):VO ⟨P,N,C⟩ V σ ⟨d',.indexAddr t x y,ty,pos,af,gd⟩ (.pointer (some ⟨g,o+j.toNat*sz,none⟩)):=v_iaddr s.h z.h hx hy h.1 h.2
theorem vDn {T:TypeId}{x:Operand}{b k:Nat}{cs:List Value}{T0:Nat}{v:Value}[s:HAg P T false](hx:ev σ x=.pointer (some ⟨b,k,none⟩))(hV:InV V (bxl b cs T0))(hc:nth cs k=some v):VO ⟨P,N,C⟩ V σ ⟨d',.load T x,ty,pos,af,gd⟩ v:=hV.elim fun i hV=>v_load i s.h hV hx hc
variable {z:Operand}
theorem vMI {i:IntKind}{n:Int}(h:ev σ z=.int i n):VO X V σ ⟨d',.move z,ty,pos,af,gd⟩ (.int i n):=v_pv (by simp only [pv,h])
theorem vMB {n:Bool}(h:ev σ z=.bool n):VO X V σ ⟨d',.move z,ty,pos,af,gd⟩ (.bool n):=v_pv (by simp only [pv,h])
theorem vMS {a:Option Addr}{n c:Nat}(h:ev σ z=.slice a n c):VO X V σ ⟨d',.move z,ty,pos,af,gd⟩ (.slice a n c):=v_pv (by simp only [pv,h])
theorem vMP {b n:Nat}(h:ev σ z=.pointer (some ⟨b,n,none⟩)):VO X V σ ⟨d',.move z,ty,pos,af,gd⟩ (.pointer (some ⟨b,n,none⟩)):=v_pv (by simp only [pv,h])
theorem vCI {i:IntKind}{n:Int}(h:ev σ z=.int i n):VO X V σ ⟨d',.assign z,ty,pos,af,gd⟩ (.int i n):=v_pv (by simp only [pv,h])
theorem vCB {n:Bool}(h:ev σ z=.bool n):VO X V σ ⟨d',.assign z,ty,pos,af,gd⟩ (.bool n):=v_pv (by simp only [pv,h])
theorem vCS {a:Option Addr}{n c:Nat}(h:ev σ z=.slice a n c):VO X V σ ⟨d',.assign z,ty,pos,af,gd⟩ (.slice a n c):=v_pv (by simp only [pv,h])
theorem vCP {b n:Nat}(h:ev σ z=.pointer (some ⟨b,n,none⟩)):VO X V σ ⟨d',.assign z,ty,pos,af,gd⟩ (.pointer (some ⟨b,n,none⟩)):=v_pv (by simp only [pv,h])
theorem vEn {T:TypeId}{x:Operand}{g o n c:Nat}{xs:List Int}{j:Int}[s:HAg P T false](hx:ev σ x=.pointer (some ⟨g,o+j.toNat*1,none⟩))(hV:SeI V (Kind.int .i64) (.slice (some ⟨g,o,none⟩) n c) xs)(h:0≤j∧j<n):VO ⟨P,N,C⟩ V σ ⟨d',.load T x,ty,pos,af,gd⟩ (.int .i64 (ix xs j)):=hV.elim fun i hV=>vLi i s.h hV hx h
theorem dRx {i:Nat}{rs:List Nat}(tk:Tk i rs){fl:Nat}(hfl:fuel+1=fl)(hi:ops[i]?=some ⟨some d,op,ty,pos,af,gd⟩)(hw:want ops σ ⟨some d,op,ty,pos,af,gd⟩=true)(hd:dok X.n (some d)=true)(hik:Nat.blt i k=true)(ht:tailB ops k=true)(hn:Region.noSelect ops=true)(hf:(Region.free .any ops listed i&&(Region.ready .any ops listed).contains i)=true)(hV:rmL V rs=V0)(hv:VO X V0 σ ⟨some d,op,ty,pos,af,gd⟩ v)(h:Tk (i+1) rs→TD X ops k V0 fuel (listed.setIfInBounds i true) V (upd σ d v) Q):TD X ops k V0 fl listed V σ Q :=
  hfl▸d_v i v hi hv hw hd hik ht hn hf (fun w s=>hV▸sL rs w s) (h ⟨⟩)
theorem dFx {i:Nat}{rs:List Nat}(tk:Tk i rs){fl:Nat}(hfl:fuel+1=fl)(hi:ops[i]?=some ⟨some d,op,ty,pos,af,gd⟩)(hw:want ops σ ⟨some d,op,ty,pos,af,gd⟩=false)(hd:dok X.n (some d)=true)(hik:Nat.blt i k=true)(ht:tailB ops k=true)(hn:Region.noSelect ops=true)(hf:(Region.free .any ops listed i&&(Region.ready .any ops listed).contains i)=true)(hV:rmL V rs=V0)(h:Tk (i+1) rs→TD X ops k V0 fuel (listed.setIfInBounds i true) V (upd σ d undef) Q):TD X ops k V0 fl listed V σ Q :=
  hfl▸d_off i hi hw hd hik ht hn hf (fun w s=>hV▸sL rs w s) (h ⟨⟩)
theorem vWn {T:TypeId}{x:Operand}{b n:Nat}{cs:List Value}{T0:Nat}[s:HAg P T true][z:HSz P T n](hx:ev σ x=.pointer (some ⟨b,0,none⟩))(hV:InV V (bxl b cs T0))(hn:cs.length=n):VO ⟨P,N,C⟩ V σ ⟨d',.load T x,ty,pos,af,gd⟩ (.agg cs.toArray):=hV.elim fun i hV=>v_loadw i s.h z.h hV hx (by rw [List.drop_zero,← hn,List.take_length]) hn
theorem qT0 {A:Type}{post:A→Value×List HP}{fn:Func}{e:Exit}(x:A)(hs:∀ w,St X.C w V→St X.C w ((post x).2++V0))(he:(e=.ret∨e=.normal):=by first | exact .inl rfl | exact .inr rfl)(hr:fn.results=#[]:=by exact rfl)(hx:(post x).1=.tuple #[]:=by exact rfl):TQ X V σ e (Ends X.P fn (Fin X V0 post)):=q_fin (rs:=[]) (vs:=[]) he x hr trivial hx hs
theorem qT2 {A:Type}{post:A→Value×List HP}{fn:Func}{e:Exit}{a b:Nat}{u v:Value}(x:A)(hs:∀ w,St X.C w V→St X.C w ((post x).2++V0))(he:(e=.ret∨e=.normal):=by first | exact .inl rfl | exact .inr rfl)(hr:fn.results=#[.tmp a,.tmp b]:=by exact rfl)(hx:(post x).1=.tuple [u,v].toArray:=by exact rfl)(h1:σ a=u:=by exact rfl)(h2:σ b=v:=by exact rfl):TQ X V σ e (Ends X.P fn (Fin X V0 post)):=q_fin (rs:=[.tmp a,.tmp b]) (vs:=[u,v]) he x hr ⟨h1,h2,trivial⟩ hx hs
theorem qT3 {A:Type}{post:A→Value×List HP}{fn:Func}{e:Exit}{a b c:Nat}{u v y:Value}(x:A)(hs:∀ w,St X.C w V→St X.C w ((post x).2++V0))(he:(e=.ret∨e=.normal):=by first | exact .inl rfl | exact .inr rfl)(hr:fn.results=#[.tmp a,.tmp b,.tmp c]:=by exact rfl)(hx:(post x).1=.tuple [u,v,y].toArray:=by exact rfl)(h1:σ a=u:=by exact rfl)(h2:σ b=v:=by exact rfl)(h3:σ c=y:=by exact rfl):TQ X V σ e (Ends X.P fn (Fin X V0 post)):=q_fin (rs:=[.tmp a,.tmp b,.tmp c]) (vs:=[u,v,y]) he x hr ⟨h1,h2,h3,trivial⟩ hx hs
theorem qS {A:Type}{post:A→Value×List HP}{fn:Func}{e:Exit}{a T b T0 n:Nat}{cs:List Value}(x:A)(hs:∀ w,St C w V→St C w ((post x).2++V0))(he:(e=.ret∨e=.normal):=by first | exact .inl rfl | exact .inr rfl)(hr:fn.results=#[.cell a T]:=by exact rfl)(ha:σ a=.pointer (some ⟨b,0,none⟩):=by exact rfl)(hV:InV V (bxl b cs T0):=by first | (with_reducible repeat (first | exact in0 | apply inS)); done | repeat (first | exact in0 | apply inS))
    (hx:(post x).1=.agg cs.toArray:=by exact rfl) (h1:aggB P T=some true:=by exact HAg.h) (h2:szB P T=some n:=by exact HSz.h) (hn:cs.length=n:=by exact rfl):TQ ⟨P,N,C⟩ V σ e (Ends P fn (Fin ⟨P,N,C⟩ V0 post)):=hV.elim fun i hV=>q_fin (X:=⟨P,N,C⟩) (rs:=[.cell a T]) (vs:=[.agg cs.toArray]) he x hr ⟨⟨i,b,cs,T0,hV,ha,.inl ⟨h1,by rw [hn]; exact h2,rfl⟩⟩,trivial⟩ hx hs
theorem vA0 {c:Bool}{x y z:Operand}(hx:ev σ x=.bool c)(h:c=false)(hz:ev σ z=.bool false):VO X V σ ⟨d',.pick x y z,ty,pos,af,gd⟩ (.bool false):=v_pickF hx h hz rfl
theorem vO1 {c:Bool}{x y z:Operand}(hx:ev σ x=.bool c)(h:c=false)(hz:ev σ z=.bool true):VO X V σ ⟨d',.pick x y z,ty,pos,af,gd⟩ (.bool true):=v_pickF hx h hz rfl
theorem vT1 {c:Bool}{x y z:Operand}(hx:ev σ x=.bool c)(h:c=true)(hy:ev σ y=.bool true):VO X V σ ⟨d',.pick x y z,ty,pos,af,gd⟩ (.bool true):=v_pickT hx h hy rfl
theorem vA1 {c:Bool}{x y z:Operand}(hx:ev σ x=.bool c)(h:c=true)(hy:ev σ y=.bool false):VO X V σ ⟨d',.pick x y z,ty,pos,af,gd⟩ (.bool false):=v_pickT hx h hy rfl
theorem vN1 {x:Operand}{t:TypeId}(hx:ev σ x=.bool true):VO X V σ ⟨d',.unOp .not t x,ty,pos,af,gd⟩ (.bool false):=vNo hx
theorem vN0 {x:Operand}{t:TypeId}(hx:ev σ x=.bool false):VO X V σ ⟨d',.unOp .not t x,ty,pos,af,gd⟩ (.bool true):=vNo hx
theorem oF {a b:Bool}(h:a=false)(g:b=false):(a||b)=false:=by rw [h,g]; rfl
theorem aT {a b:Bool}(h:a=true)(g:b=true):(a&&b)=true:=by rw [h,g]; rfl
theorem oT2 {a b:Bool}(g:b=true):(a||b)=true:=by rw [g]; cases a<;>rfl
theorem aF2 {a b:Bool}(g:b=false):(a&&b)=false:=by rw [g]; cases a<;>rfl
theorem nT {a:Bool}(h:a=false):(!a)=true:=by rw [h]; rfl
theorem nF {a:Bool}(h:a=true):(!a)=false:=by rw [h]; rfl
theorem bTr {t:Nat}{E:Bool}(h:E=true)(hs:σ t=.bool true):σ t=.bool E:=by rw [hs,h]
theorem bFa {t:Nat}{E:Bool}(h:E=false)(hs:σ t=.bool false):σ t=.bool E:=by rw [hs,h]
theorem qj {sl:List (Nat×Value)}{Vf:List HP}(h2:∀ w,St X.C w V→St X.C w Vf)(h1:AllS σ sl:=by
    first
    | exact aS R
    | (repeat' (first
        | exact trivial
        | (refine ⟨?_,?_⟩
           · first
             | exact rfl
             | (refine bTr ?_ rfl
                with_reducible repeat' (first | assumption | exact oT (by assumption) | exact oT2 (by assumption) | refine aT ?_ ?_ | refine nT ?_ | exact oT (oT (by assumption)) | refine oT ?_))
             | (refine bFa ?_ rfl
                with_reducible repeat' (first | assumption | exact aF (by assumption) | exact aF2 (by assumption) | refine oF ?_ ?_ | refine nF ?_ | exact aF (aF (by assumption)) | refine aF ?_)))))):TQ X V σ .normal (Then (Jn X (fun _:Unit×Unit=>True) (fun _=>sl) (fun _=>Vf)) Q):=q_join ((),()) trivial h1 h2
theorem c_falsen {k:Operand}{b:Bool}(hk:ev σ k=.bool b)(hb:¬ b=true)(h:TC X V σ y Q):TC X V σ (.cond k x y) Q:=c_false hk (by simpa using hb) h
theorem wn1 {j:Nat}{c:Bool}(h:o.guard=some (j,true))(hg:gval ops σ j=some c)(e:c=true):want ops σ o=true:=want_on h hg e
theorem wn0 {j:Nat}{c:Bool}(h:o.guard=some (j,false))(hg:gval ops σ j=some c)(e:c=false):want ops σ o=true:=want_on h hg e
theorem wf1 {j:Nat}{c:Bool}(h:o.guard=some (j,false))(hg:gval ops σ j=some c)(e:c=true):want ops σ o=false:=want_off h hg e
theorem wf0 {j:Nat}{c:Bool}(h:o.guard=some (j,true))(hg:gval ops σ j=some c)(e:c=false):want ops σ o=false:=want_off h hg e
theorem lOx (hw:want ops σ ⟨some d,op,ty,pos,af,gd⟩=true)(hd:dok X.n (some d)=true)(hv:VO X V σ ⟨some d,op,ty,pos,af,gd⟩ v)(h:TL X ops V (upd σ d v) rest Q):TL X ops V σ (⟨some d,op,ty,pos,af,gd⟩::rest) Q:=l_v v hv hw hd h
theorem lfx (hw:want ops σ o=false)(hd:dok X.n o.dst=true)(h:TL X ops V (updo σ o.dst undef) rest Q):TL X ops V σ (o::rest) Q:=l_off hd hw h
theorem tI:∀ w,St C w V→St C w V:=fun _ s=>s
theorem tE (n:Nat)(is:List Nat)(h:selB n is=true:=by exact rfl)(hn:geB n V=true:=by exact rfl):∀ w,St C w V→St C w (is.map (lk V)++dp n V):=fun _ s=>s.sel n is h hn
end
theorem gv {X:Cx}{V:List HP}{σ:Env}{o:Oper}{v:Value}(h:VO X V σ o v:=by
  first
  | ((with_reducible apply vMI); exact rfl)
  | ((with_reducible apply vMS); exact rfl)
  | ((with_reducible apply vMB); exact rfl)
  | ((with_reducible apply vMP); exact rfl)
  | ((with_reducible apply vCI); exact rfl)
  | ((with_reducible apply vCS); exact rfl)
  | ((with_reducible apply vCB); exact rfl)
  | ((with_reducible apply vCP); exact rfl)
  | ((with_reducible apply vAd)<;>exact rfl)
  | ((with_reducible apply vLt)<;>exact rfl)
  | ((with_reducible apply vSb)<;>exact rfl)
  | ((with_reducible apply vGe)<;>exact rfl)
  | ((with_reducible apply vGt)<;>exact rfl)
  | ((with_reducible apply vLe)<;>exact rfl)
  | ((with_reducible apply vEq)<;>exact rfl)
  | ((with_reducible apply vNe)<;>exact rfl)
  | ((with_reducible apply vMu)<;>exact rfl)
  | ((with_reducible apply vLn); exact rfl)
  | ((with_reducible apply vFn)<;>exact rfl)
  | (with_reducible apply vIn
     · exact rfl
     · exact rfl
     · first | with_reducible assumption | assumption)
  | (with_reducible apply vDn
     · exact rfl
     · first | (with_reducible repeat (first | exact in0 | apply inS)); done | repeat (first | exact in0 | apply inS)
     · exact rfl)
  | (with_reducible apply vEn
     · exact rfl
     · first | (with_reducible repeat (first | exact sio | exact sir | apply siS)); done | repeat (first | exact sio | exact sir | apply siS)
     · first | with_reducible assumption | assumption)
  | (with_reducible apply vWn
     · exact rfl
     · first | (with_reducible repeat (first | exact in0 | apply inS)); done | repeat (first | exact in0 | apply inS)
     · exact rfl)
  | ((with_reducible apply vN1); exact rfl)
  | ((with_reducible apply vN0); exact rfl)
  | ((with_reducible apply vNo); exact rfl)
  | (with_reducible apply vA0
     · exact rfl
     · with_reducible repeat (first | assumption | refine oT ?_ | refine aF ?_)
     · exact rfl)
  | (with_reducible apply vO1
     · exact rfl
     · with_reducible repeat (first | assumption | refine oT ?_ | refine aF ?_)
     · exact rfl)
  | (with_reducible apply vT1
     · exact rfl
     · with_reducible repeat (first | assumption | refine oT ?_ | refine aF ?_)
     · exact rfl)
  | (with_reducible apply vA1
     · exact rfl
     · with_reducible repeat (first | assumption | refine oT ?_ | refine aF ?_)
     · exact rfl)
  | (with_reducible apply pOF
     · exact rfl
     · with_reducible repeat (first | assumption | refine oT ?_ | refine aF ?_)
     · exact rfl)
  | (with_reducible apply pAT
     · exact rfl
     · with_reducible repeat (first | assumption | refine oT ?_ | refine aF ?_)
     · exact rfl)
  | exact vI rfl
  | exact vB rfl
  | exact vS rfl
  | exact vP rfl):VO X V σ o v:=h
theorem o_1 {G H:Prop}(h:H)(s:Hd H→G:=by
  intro zz
  first
  | with_reducible refine c_seq ?_
  | with_reducible refine l_nil ?_
  | with_reducible refine q_next ?_
  | with_reducible refine c_region ?_
  | (with_reducible apply lOx
     · first | exact rfl | (refine wn1 rfl rfl ?_; (with_reducible repeat (first | assumption | refine oT ?_ | refine aF ?_)); done) | (refine wn0 rfl rfl ?_; (with_reducible repeat (first | assumption | refine oT ?_ | refine aF ?_)); done)
     · exact rfl
     · exact gv)
  | (with_reducible apply lfx
     · first | exact rfl | (refine wf1 rfl rfl ?_; (with_reducible repeat (first | assumption | refine oT ?_ | refine aF ?_)); done) | (refine wf0 rfl rfl ?_; (with_reducible repeat (first | assumption | refine oT ?_ | refine aF ?_)); done)
     · exact rfl)
  | with_reducible refine c_block ?_
  | with_reducible refine c_skip ?_
  | with_reducible refine c_exit ?_
  | with_reducible refine c_ret ?_
  | with_reducible refine q_exit ?_
  | with_reducible refine q_block ?_
  | with_reducible refine q_blockn ?_
  | with_reducible refine q_ret ?_
  | with_reducible refine q_blockr ?_
  | (with_reducible apply c_true
     · exact rfl
     · first | with_reducible assumption | assumption)
  | (with_reducible apply c_falsen
     · exact rfl
     · first | with_reducible assumption | assumption)
  | (with_reducible apply c_false
     · exact rfl
     · first | with_reducible assumption | assumption)
  exact zz.h):G:=s ⟨h⟩
theorem o_2 {G H:Prop}(h:H)(s:Hd H→G:=by intro zz; (iterate 2 (refine o_1 ?_)); exact zz.h):G:=s ⟨h⟩
theorem o_3 {G H:Prop}(h:H)(s:Hd H→G:=by intro zz; (iterate 3 (refine o_1 ?_)); exact zz.h):G:=s ⟨h⟩
theorem o_4 {G H:Prop}(h:H)(s:Hd H→G:=by intro zz; (iterate 4 (refine o_1 ?_)); exact zz.h):G:=s ⟨h⟩
theorem o_5 {G H:Prop}(h:H)(s:Hd H→G:=by intro zz; (iterate 5 (refine o_1 ?_)); exact zz.h):G:=s ⟨h⟩
theorem o_6 {G H:Prop}(h:H)(s:Hd H→G:=by intro zz; (iterate 6 (refine o_1 ?_)); exact zz.h):G:=s ⟨h⟩
theorem o_7 {G H:Prop}(h:H)(s:Hd H→G:=by intro zz; (iterate 7 (refine o_1 ?_)); exact zz.h):G:=s ⟨h⟩
theorem o_8 {G H:Prop}(h:H)(s:Hd H→G:=by intro zz; (iterate 8 (refine o_1 ?_)); exact zz.h):G:=s ⟨h⟩
theorem o_9 {G H:Prop}(h:H)(s:Hd H→G:=by intro zz; (iterate 9 (refine o_1 ?_)); exact zz.h):G:=s ⟨h⟩
theorem o_10 {G H:Prop}(h:H)(s:Hd H→G:=by intro zz; (iterate 10 (refine o_1 ?_)); exact zz.h):G:=s ⟨h⟩
theorem o_11 {G H:Prop}(h:H)(s:Hd H→G:=by intro zz; (iterate 11 (refine o_1 ?_)); exact zz.h):G:=s ⟨h⟩
theorem o_12 {G H:Prop}(h:H)(s:Hd H→G:=by intro zz; (iterate 12 (refine o_1 ?_)); exact zz.h):G:=s ⟨h⟩
theorem o_13 {G H:Prop}(h:H)(s:Hd H→G:=by intro zz; (iterate 13 (refine o_1 ?_)); exact zz.h):G:=s ⟨h⟩
theorem o_14 {G H:Prop}(h:H)(s:Hd H→G:=by intro zz; (iterate 14 (refine o_1 ?_)); exact zz.h):G:=s ⟨h⟩
theorem o_15 {G H:Prop}(h:H)(s:Hd H→G:=by intro zz; (iterate 15 (refine o_1 ?_)); exact zz.h):G:=s ⟨h⟩
theorem o_16 {G H:Prop}(h:H)(s:Hd H→G:=by intro zz; (iterate 16 (refine o_1 ?_)); exact zz.h):G:=s ⟨h⟩
theorem o_17 {G H:Prop}(h:H)(s:Hd H→G:=by intro zz; (iterate 17 (refine o_1 ?_)); exact zz.h):G:=s ⟨h⟩
theorem o_18 {G H:Prop}(h:H)(s:Hd H→G:=by intro zz; (iterate 18 (refine o_1 ?_)); exact zz.h):G:=s ⟨h⟩
theorem o_19 {G H:Prop}(h:H)(s:Hd H→G:=by intro zz; (iterate 19 (refine o_1 ?_)); exact zz.h):G:=s ⟨h⟩
theorem o_20 {G H:Prop}(h:H)(s:Hd H→G:=by intro zz; (iterate 20 (refine o_1 ?_)); exact zz.h):G:=s ⟨h⟩
theorem o_21 {G H:Prop}(h:H)(s:Hd H→G:=by intro zz; (iterate 21 (refine o_1 ?_)); exact zz.h):G:=s ⟨h⟩
theorem o_22 {G H:Prop}(h:H)(s:Hd H→G:=by intro zz; (iterate 22 (refine o_1 ?_)); exact zz.h):G:=s ⟨h⟩
theorem o_24 {G H:Prop}(h:H)(s:Hd H→G:=by intro zz; (iterate 24 (refine o_1 ?_)); exact zz.h):G:=s ⟨h⟩
theorem o_31 {G H:Prop}(h:H)(s:Hd H→G:=by intro zz; (iterate 31 (refine o_1 ?_)); exact zz.h):G:=s ⟨h⟩
theorem d_1 {G H:Prop}{i:Nat}{rs:List Nat}(tk:Tk i rs)(h:H)(s:Hd H→G:=by
  intro zz
  first
  | (with_reducible apply dRx tk
     · exact rfl
     · exact rfl
     · first | exact rfl | (refine wn1 rfl rfl ?_; (with_reducible repeat (first | assumption | refine oT ?_ | refine aF ?_)); done) | (refine wn0 rfl rfl ?_; (with_reducible repeat (first | assumption | refine oT ?_ | refine aF ?_)); done)
     · exact rfl
     · exact rfl
     · assumption
     · assumption
     · kernel_rfl
     · exact rfl
     · exact gv)
  | (with_reducible apply dFx tk
     · exact rfl
     · exact rfl
     · first | exact rfl | (refine wf1 rfl rfl ?_; (with_reducible repeat (first | assumption | refine oT ?_ | refine aF ?_)); done) | (refine wf0 rfl rfl ?_; (with_reducible repeat (first | assumption | refine oT ?_ | refine aF ?_)); done)
     · exact rfl
     · exact rfl
     · assumption
     · assumption
     · kernel_rfl
     · exact rfl)
  exact zz.h):G:=s ⟨h⟩
theorem d1_ {G H:Prop}(i:Nat)(rs:List Nat)(h:H)(s:Tk i rs→Hd H→G:=by intro tk zz; (iterate 1 (refine d_1 tk ?_; clear tk; intro tk)); exact zz.h):G:=s ⟨⟩ ⟨h⟩
theorem d2_ {G H:Prop}(i:Nat)(rs:List Nat)(h:H)(s:Tk i rs→Hd H→G:=by intro tk zz; (iterate 2 (refine d_1 tk ?_; clear tk; intro tk)); exact zz.h):G:=s ⟨⟩ ⟨h⟩
theorem d3_ {G H:Prop}(i:Nat)(rs:List Nat)(h:H)(s:Tk i rs→Hd H→G:=by intro tk zz; (iterate 3 (refine d_1 tk ?_; clear tk; intro tk)); exact zz.h):G:=s ⟨⟩ ⟨h⟩
theorem d4_ {G H:Prop}(i:Nat)(rs:List Nat)(h:H)(s:Tk i rs→Hd H→G:=by intro tk zz; (iterate 4 (refine d_1 tk ?_; clear tk; intro tk)); exact zz.h):G:=s ⟨⟩ ⟨h⟩
theorem d5_ {G H:Prop}(i:Nat)(rs:List Nat)(h:H)(s:Tk i rs→Hd H→G:=by intro tk zz; (iterate 5 (refine d_1 tk ?_; clear tk; intro tk)); exact zz.h):G:=s ⟨⟩ ⟨h⟩
theorem d6_ {G H:Prop}(i:Nat)(rs:List Nat)(h:H)(s:Tk i rs→Hd H→G:=by intro tk zz; (iterate 6 (refine d_1 tk ?_; clear tk; intro tk)); exact zz.h):G:=s ⟨⟩ ⟨h⟩
theorem d7_ {G H:Prop}(i:Nat)(rs:List Nat)(h:H)(s:Tk i rs→Hd H→G:=by intro tk zz; (iterate 7 (refine d_1 tk ?_; clear tk; intro tk)); exact zz.h):G:=s ⟨⟩ ⟨h⟩
theorem d8_ {G H:Prop}(i:Nat)(rs:List Nat)(h:H)(s:Tk i rs→Hd H→G:=by intro tk zz; (iterate 8 (refine d_1 tk ?_; clear tk; intro tk)); exact zz.h):G:=s ⟨⟩ ⟨h⟩
theorem d9_ {G H:Prop}(i:Nat)(rs:List Nat)(h:H)(s:Tk i rs→Hd H→G:=by intro tk zz; (iterate 9 (refine d_1 tk ?_; clear tk; intro tk)); exact zz.h):G:=s ⟨⟩ ⟨h⟩
theorem d10_ {G H:Prop}(i:Nat)(rs:List Nat)(h:H)(s:Tk i rs→Hd H→G:=by intro tk zz; (iterate 10 (refine d_1 tk ?_; clear tk; intro tk)); exact zz.h):G:=s ⟨⟩ ⟨h⟩
theorem d11_ {G H:Prop}(i:Nat)(rs:List Nat)(h:H)(s:Tk i rs→Hd H→G:=by intro tk zz; (iterate 11 (refine d_1 tk ?_; clear tk; intro tk)); exact zz.h):G:=s ⟨⟩ ⟨h⟩
theorem d12_ {G H:Prop}(i:Nat)(rs:List Nat)(h:H)(s:Tk i rs→Hd H→G:=by intro tk zz; (iterate 12 (refine d_1 tk ?_; clear tk; intro tk)); exact zz.h):G:=s ⟨⟩ ⟨h⟩
theorem d13_ {G H:Prop}(i:Nat)(rs:List Nat)(h:H)(s:Tk i rs→Hd H→G:=by intro tk zz; (iterate 13 (refine d_1 tk ?_; clear tk; intro tk)); exact zz.h):G:=s ⟨⟩ ⟨h⟩
theorem d14_ {G H:Prop}(i:Nat)(rs:List Nat)(h:H)(s:Tk i rs→Hd H→G:=by intro tk zz; (iterate 14 (refine d_1 tk ?_; clear tk; intro tk)); exact zz.h):G:=s ⟨⟩ ⟨h⟩
theorem d15_ {G H:Prop}(i:Nat)(rs:List Nat)(h:H)(s:Tk i rs→Hd H→G:=by intro tk zz; (iterate 15 (refine d_1 tk ?_; clear tk; intro tk)); exact zz.h):G:=s ⟨⟩ ⟨h⟩
theorem d16_ {G H:Prop}(i:Nat)(rs:List Nat)(h:H)(s:Tk i rs→Hd H→G:=by intro tk zz; (iterate 16 (refine d_1 tk ?_; clear tk; intro tk)); exact zz.h):G:=s ⟨⟩ ⟨h⟩
theorem d17_ {G H:Prop}(i:Nat)(rs:List Nat)(h:H)(s:Tk i rs→Hd H→G:=by intro tk zz; (iterate 17 (refine d_1 tk ?_; clear tk; intro tk)); exact zz.h):G:=s ⟨⟩ ⟨h⟩
theorem d19_ {G H:Prop}(i:Nat)(rs:List Nat)(h:H)(s:Tk i rs→Hd H→G:=by intro tk zz; (iterate 19 (refine d_1 tk ?_; clear tk; intro tk)); exact zz.h):G:=s ⟨⟩ ⟨h⟩
theorem d20_ {G H:Prop}(i:Nat)(rs:List Nat)(h:H)(s:Tk i rs→Hd H→G:=by intro tk zz; (iterate 20 (refine d_1 tk ?_; clear tk; intro tk)); exact zz.h):G:=s ⟨⟩ ⟨h⟩
theorem d23_ {G H:Prop}(i:Nat)(rs:List Nat)(h:H)(s:Tk i rs→Hd H→G:=by intro tk zz; (iterate 23 (refine d_1 tk ?_; clear tk; intro tk)); exact zz.h):G:=s ⟨⟩ ⟨h⟩
theorem d24_ {G H:Prop}(i:Nat)(rs:List Nat)(h:H)(s:Tk i rs→Hd H→G:=by intro tk zz; (iterate 24 (refine d_1 tk ?_; clear tk; intro tk)); exact zz.h):G:=s ⟨⟩ ⟨h⟩
end Go.Pg
