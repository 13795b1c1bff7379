/- A part of the proof that the named laws of this program answer true, whatever the input. -/
import Derived.Test.YtfmnhpbjeapjaaaGreatLift0
import Derived.Laws.Append
import Derived.Laws.Cover3
import Derived.Laws.StructEq
import Derived.Laws.BytesString
import Derived.Lib.ConvBytes
open Array renaming ext'→cG,getElem?_toList→aR,mem_filter→m0
open Bool renaming and_eq_true→aS,false_eq_true→cf
open ByteArray renaming data_extract→mw
open List renaming extract_eq_take_drop→fq,map_cons→be,map_map→hP,take_of_length_le→bC,length_cons→az,cons_append→gn,replicate→eE,length_eq_zero_iff→aD,getElem?_eq_getElem→ag
open Nat renaming beq→bj,ble→ue,eq_of_beq_eq_true→aJ,le_of_ble_eq_true→gN,add_zero→fe,zero_add→aC,min→dt
open Option renaming some→bE,isSome_iff_exists→fM,map_some→je
open Prod renaming mk→nh
open UInt8 renaming ofNat→jU
namespace Go.Lift
open Go
def L3(S:Option (ac→Prop))(h:ac):Prop:=match S with|none=>True|some f=>f h
def Yv(P:Program)(s:Sem Value)(K:RK)(h:ac):Prop:=∃v S,K v S∧L3 S h∧∀w:World,L3 S w.heap→s.run P w=.ok v w
theorem Yv.of_pure{P:Program}{s:Sem Value}{K:RK}{h:ac}{v:Value}(b:K v none)(a:∀w:World,s.run P w=.ok v w):Yv P s K h:=
 ⟨v,none,b,trivial,fun w _=>a w⟩
variable {P:Program}
theorem sW{t:TypeId}{f:Nat}{u:TypeId}{off:Nat}(h:sX P t f=some (u,off)):
  ∃fs g,P.underlying t=some (.struct fs)∧fs[f]? =some g∧g.type=u∧g.offset=off:=by
 unfold sX at h;split at h
 ·rename_i fs hu
  split at h
  ·rename_i g hg
   simp only[bE.injEq,nh.injEq]at h;exact⟨fs,g,hu,by simpa using hg,h.1,h.2⟩
  ·cases h
 ·cases h
theorem uY{t:TypeId}(h:bj (bJ P t) 0=false)(w:World):(sizeOf t).run P w=.ok (bJ P t) w:=by
 unfold bJ at h⊢;cases hi:P.info? t with
 |none=>rw[hi]at h;cases h
 |some i=>simp[sizeOf,cz hi]
theorem zD{t:TypeId}{f:Nat}{u:TypeId}{off:Nat}{a:Addr}{K:RK}{h:ac}(j:sX P t f=some (u,off))
  (b:bif bj (bJ P u) 0 then False else K (.pointer (some (adr a off))) none):Yv P (Instr.fieldAt t (.pointer (some a)) f) K h:=by
 obtain⟨k,g,i,d,rfl,rfl⟩:=sW j;cases hz:bj (bJ P g.type) 0 with
 |true=>rw[hz]at b;exact b.elim
 |false=>
  rw[hz]at b;refine .of_pure b fun w=>?_
  have c:bJ P g.type≠0:=fun e=>by rw[e]at hz;cases hz
  simp only[Instr.fieldAt,Sem.run_bind,ar i,Result.andThen_ok,d,Instr.sureAddr,Sem.run_pure,fieldPlace,uY hz];simp[c,qU]
theorem rW{t:TypeId}{i:TypeInfo}(_:P.info? t=some i)(a:∃d,P.underlying t=some d)(w:World):(isAgg t).run P w=.ok (rX P t) w:=by
 obtain⟨d,hd⟩:=a;simp only[isAgg,Sem.run_bind,ar hd,Result.andThen_ok];unfold rX;rw[hd];cases d<;>rfl
theorem wt{c:BinOp}{k k':IntKind}{a b:Int}{K:RK}{h:ac}(g:c=.shl∨c=.shr)(f:GC c k a b K):Yv P (Op.shift c k a k' b) K h:=by
 rcases g with rfl|rfl
 ·obtain⟨e,d⟩:=f
  refine .of_pure d fun w=>?_
  simp[Op.shift,Int.not_lt.2 e]
 ·obtain⟨e,d⟩:=f
  refine .of_pure d fun w=>?_
  simp[Op.shift,Int.not_lt.2 e]
theorem Hg{c:BinOp}{k:IntKind}{a b:Int}{K:RK}{h:ac}(d:N2 c k a b K)(g:c≠ .shl∧c≠ .shr):Yv P (binOp c 0 (.int k a) (.int k b)) K h:=by
 cases c<;>simp only[N2]at d
 case quo=>obtain⟨f,e⟩:=d;exact .of_pure e fun w=>by simp[binOp,Op.intDiv,f]
 case rem=>obtain⟨f,e⟩:=d;exact .of_pure e fun w=>by simp[binOp,Op.intDiv,f]
 all_goals exact .of_pure d fun w=>by simp[binOp,Op.intArith,Op.intBits,Op.intCmp]
theorem Bm(c:BinOp)(t:TypeId)(k k':IntKind)(a b:Int):binOp c t (.int k a) (.int k' b)=binOp c 0 (.int k a) (.int k' b):=by
 cases c<;>rfl
theorem Gy{c:BinOp}{t:TypeId}{a b:ByteArray}{K:RK}{h:ac}(d:NI c a b K):Yv P (binOp c t (.string a) (.string b)) K h:=by
 cases c<;>simp only[NI]at d
 case add=>
  obtain⟨f,e⟩:=d;refine .of_pure e fun w=>?_
  have:¬(((a.size+b.size:Nat):Int)>IntKind.i64.max):=by
   have:IntKind.i64.max=9223372036854775807:=by decide
   omega
  simp only[binOp,Op.stringOp,if_neg this,Sem.run_pure]
 all_goals exact .of_pure d fun w=>by simp[binOp,Op.stringOp]
theorem jP{t:TypeId}{x y:Value}{b:Bool}{w:World}(h:∀d,(Op.equalIn (d+1) t x y).run P w=.ok b w):(Op.equal t x y).run P w=.ok b w:=h 9999
theorem A7{t:TypeId}{e:TypeId}(b:P.underlying t=some (.pointer e))(a:Option Addr)(w:World):(Op.equal t (.pointer a) (.pointer none)).run P w=.ok a.isNone w:=by
 refine jP fun d=>?_
 simp only[Op.equalIn,Sem.run_bind,ar b,Result.andThen_ok];cases a<;>rfl
theorem A8(e:BinOp)(t:TypeId)(x y:Operand)(a b:Value)(h:∀c d,a=.agg c→b=.agg d→False)(hi:a=.nilIface→b=.nilIface→False)(w:World):
  (eqGuard e t x y a b).run P w=.ok () w:=by
 cases e;case eql=>cases a<;>cases b<;>first|rfl|exact(hi rfl rfl).elim|exact(h _ _ rfl rfl).elim
 case neq=>cases a<;>cases b<;>first|rfl|exact(hi rfl rfl).elim|exact(h _ _ rfl rfl).elim
 all_goals rfl
theorem JL(t:TypeId)(x y:Value)(hx:∀k a,x≠ .int k a)(c:∀s,x≠ .string s)(d:∀k a,x≠ .float k a)(hc:∀k a b,x≠ .complex k a b):binOp .eql t x y=(do pure (.bool (←Op.equal t x y))):=by
 cases x<;>first|rfl|exact absurd rfl (hx _ _)|exact absurd rfl (c _)|exact absurd rfl (d _ _)|exact absurd rfl (hc _ _ _)
theorem JK(t:TypeId)(x y:Value)(hx:∀k a,x≠ .int k a)(c:∀s,x≠ .string s)(d:∀k a,x≠ .float k a)(hc:∀k a b,x≠ .complex k a b):binOp .neq t x y=(do pure (.bool (!(←Op.equal t x y)))):=by
 cases x<;>first|rfl|exact absurd rfl (hx _ _)|exact absurd rfl (c _)|exact absurd rfl (d _ _)|exact absurd rfl (hc _ _ _)
theorem jQ{t:TypeId}{neg:Bool}{x y:Value}{b:Bool}{w:World}(e:(Op.equal t x y).run P w=.ok b w)
  (hx:∀k a,x≠ .int k a)(c:∀s,x≠ .string s)(d:∀k a,x≠ .float k a)(hc:∀k a b,x≠ .complex k a b):
  (binOp (bif neg then .neq else .eql) t x y).run P w=.ok (.bool (bif neg then !b else b)) w:=by
 cases neg
 ·simp only[cond_false,JL t x y hx c d hc,Sem.run_bind,e,Result.andThen_ok,Sem.run_pure]
 ·simp only[cond_true,JK t x y hx c d hc,Sem.run_bind,e,Result.andThen_ok,Sem.run_pure]
theorem Hf{x:Value}(h:N1 x=true):(∃f a b,x=.func f a b)∨x=.nilFunc:=by
 cases x<;>first|exact .inr rfl|exact .inl ⟨_,_,_,rfl⟩|cases h
theorem AJ{t:TypeId}{neg:Bool}{x y:Value}{K:RK}{h:ac}(g:My P t neg x y K):
  (∀c d,x=.agg c→y=.agg d→False)∧(x=.nilIface→y=.nilIface→False)∧Yv P (binOp (bif neg then .neq else .eql) t x y) K h:=by
 unfold My at g;split at g
 ·rename_i e a hu
  refine⟨nofun,nofun,.of_pure g fun w=>?_⟩
  exact jQ (A7 hu a w) nofun nofun nofun nofun
 ·rename_i k e a hu
  refine⟨nofun,nofun,.of_pure g fun w=>?_⟩
  refine jQ ?_ nofun nofun nofun nofun;refine jP fun d=>?_
  simp only[Op.equalIn,Sem.run_bind,ar hu,Result.andThen_ok];cases a<;>rfl
 ·rename_i e a _ _ _ _ hu
  refine⟨nofun,nofun,.of_pure g fun w=>?_⟩
  refine jQ ?_ nofun nofun nofun nofun;refine jP fun d=>?_
  simp only[Op.equalIn,Sem.run_bind,ar hu,Result.andThen_ok];cases a<;>rfl
 ·rename_i hu
  obtain⟨hx,i⟩:=g;rcases Hf hx with⟨f,a,b,e⟩|e<;>subst e
  ·refine⟨nofun,nofun,.of_pure i fun w=>jQ (jP fun d=>?_) nofun nofun nofun nofun⟩
   simp only[Op.equalIn,Sem.run_bind,ar hu,Result.andThen_ok];rfl
  ·refine⟨nofun,nofun,.of_pure i fun w=>jQ (jP fun d=>?_) nofun nofun nofun nofun⟩
   simp only[Op.equalIn,Sem.run_bind,ar hu,Result.andThen_ok];rfl
 ·exact g.elim
theorem sC{w:World}{a b:Addr}(f:fP w.heap a)(d:fP w.heap b):(sameAddr a b).run P w=.ok (a==b) w:=by
 obtain⟨g,v,f,y⟩:=f;obtain⟨j,o,d,sb⟩:=d;by_cases c:a.block=b.block
 ·simp[sameAddr,c]
 ·have i:(a==b)=false:=by
   rw[beq_eq_false_iff_ne];intro e;exact c (by rw[e])
  have s:w.shape? a.block=some (v,g.size):=by simp[World.shape?,f]
  have u:w.shape? b.block=some (o,j.size):=by simp[World.shape?,d]
  have x:∀n,w.frozen? ({block:=a.block,off:=n}:Addr)=false:=fun n=>by simp[World.frozen?,f]
  have q:∀n,w.frozen? ({block:=b.block,off:=n}:Addr)=false:=fun n=>by simp[World.frozen?,d]
  have p:w.frozen? a=false:=by simp[World.frozen?,f]
  have k:w.frozen? b=false:=by simp[World.frozen?,d]
  obtain⟨m,hm⟩:∃m,g.size=m+1:=⟨g.size-1,by omega⟩
  obtain⟨n,t⟩:∃n,j.size=n+1:=⟨j.size-1,by omega⟩
  simp[sameAddr,c,noView,viewAt,mayBeOne,stringish,s,u,x,q,p,k,hm,t,i]
theorem Dd{t:TypeId}{neg:Bool}{x y:Value}{K:RK}{h:ac}(g:Pt P t neg x y K h):
  (∀c d,x=.agg c→y=.agg d→False)∧(x=.nilIface→y=.nilIface→False)∧Yv P (binOp (bif neg then .neq else .eql) t x y) K h:=by
 unfold Pt at g;split at g
 ·rename_i a b hu
  refine⟨nofun,nofun,.of_pure g fun w=>?_⟩
  refine jQ ?_ nofun nofun nofun nofun;refine jP fun d=>?_
  simp only[Op.equalIn,Sem.run_bind,ar hu,Result.andThen_ok,Sem.run_pure]
 ·rename_i e a b hu
  obtain⟨j,m,o⟩:=g;refine⟨nofun,nofun,_,_,o,m,fun w k=>?_⟩
  refine jQ ?_ nofun nofun nofun nofun;have f:bj (bJ P e) 0=false:=by
   cases hb:bj (bJ P e) 0 with
   |false=>rfl
   |true=>rw[hb]at j;exact j.elim
  have i:bJ P e≠0:=fun e=>by rw[e]at f;cases f
  refine jP fun d=>?_
  simp only[Op.equalIn,Sem.run_bind,ar hu,Result.andThen_ok];cases a with
  |none=>cases b<;>rfl
  |some a=>cases b with
   |none=>rfl
   |some b=>
    obtain⟨n,p⟩:=k a b rfl rfl;simp only[Sem.run_bind,uY f,Result.andThen_ok,ne_eq,i,not_false_eq_true,if_true,sC n p];rfl
 ·exact g.elim
theorem AG{f:BinOp}{t:TypeId}{x y:Value}{K:RK}{h:ac}(e:Mn P f t x y K h):
  (∀c d,x=.agg c→y=.agg d→False)∧(x=.nilIface→y=.nilIface→False)∧Yv P (binOp f t x y) K h:=by
 unfold Mn at e;split at e
 ·rename_i k a k' b
  refine⟨nofun,nofun,?_⟩;rw[Bm];split at e
  ·exact wt (k':=k') (.inl rfl) e
  ·exact wt (k':=k') (.inr rfl) e
  ·rename_i h1 h2
   cases hk:D2 k' k with
   |false=>rw[hk]at e;exact e.elim
   |true=>rw[hk]at e;have:=wF hk;subst this;exact Hg e ⟨h1,h2⟩
 ·exact⟨nofun,nofun,Gy e⟩
 ·split at e
  ·exact Dd (neg:=false) e
  ·exact Dd (neg:=true) e
  ·exact e.elim
theorem Fc{u:TypeId}{cs:List Value}{off:Nat}(a:((P.underlying u).isSome&&(P.info? u).isSome)=true){w:World}(b:rX P u=true):
  (part u cs.toArray off).run P w=.ok (.agg ((cs.drop off).take (bJ P u)).toArray) w:=by
 simp only[aS,fM]at a;obtain⟨a,i,hi⟩:=a;have c:(sizeOf u).run P w=.ok (bJ P u) w:=by simp[sizeOf,cz hi,bJ,hi]
 simp only[part,Sem.run_bind,rW hi a,Result.andThen_ok,b,if_true,c,Sem.run_pure];congr 2
 apply cG;simp[fq]
theorem CQ{u:TypeId}{cs:List Value}{off:Nat}(a:((P.underlying u).isSome&&(P.info? u).isSome)=true){w:World}(c:rX P u=false){v:Value}(hc:cs[off]? =some v):
  (part u cs.toArray off).run P w=.ok v w:=by
 simp only[aS,fM]at a;obtain⟨a,i,hi⟩:=a;have b:cs.toArray[off]? =some v:=by simpa using hc
 simp only[part,Sem.run_bind,rW hi a,Result.andThen_ok,c,cf,if_false,b,Sem.run_pure]
theorem ve{h:ac}:∀{l m:List (Option Addr×Option Addr)},pm h (l++m)→pm h l∧pm h m
 | [],_,h=>⟨trivial,h⟩
 |(_,_)::_,_,h=>⟨⟨h.1,(ve h.2).1⟩,(ve h.2).2⟩
theorem FH{t:TypeId}{x y:Value}{b:Bool}{l:List (Option Addr×Option Addr)}(f:Lu P t x y=some (b,l)){w:World}(i:pm w.heap l)(d:Nat):
  (Op.equalIn (d+1) t x y).run P w=.ok b w:=by
 unfold Lu at f;split at f
 ·rename_i k0 k a k' c hu
  cases hk:D2 k' k with
  |false=>rw[hk]at f;cases f
  |true=>
   rw[hk]at f;have:=wF hk;subst this;cases f;exact run_equalIn_int w d t _ _ _ _ hu
 ·rename_i a c hu
  cases f;exact run_equalIn_bool w d t _ _ hu
 ·rename_i a c hu
  cases f;exact run_equalIn_string w d t _ _ hu
 ·rename_i e a c hu
  cases hz:bj (bJ P e) 0 with
  |true=>rw[hz]at f;cases f
  |false=>
   rw[hz]at f;cases f;have g:bJ P e≠0:=fun e=>by rw[e]at hz;cases hz
   simp only[Op.equalIn,Sem.run_bind,ar hu,Result.andThen_ok];cases a with
   |none=>cases c<;>rfl
   |some a=>cases c with
    |none=>rfl
    |some c=>
     obtain⟨j,m⟩:=i.1 a c rfl rfl;simp only[Sem.run_bind,uY hz,Result.andThen_ok,ne_eq,g,not_false_eq_true,if_true,sC j m];rfl
 ·cases f
theorem A9{rec:TypeId→List Value→List Value→Option (Bool×List (Option Addr×Option Addr))}{d:Nat}{xs ys:List Value}{w:World}
  (g:∀t us vs b l,rec t us vs=some (b,l)→pm w.heap l→(Op.equalIn (d+1) t (.agg us.toArray) (.agg vs.toArray)).run P w=.ok b w):
  ∀(fs:List Field) (b:Bool) (l:List (Option Addr×Option Addr)),MP P rec xs ys fs=some (b,l)→pm w.heap l→(Op.eqFields (d+1) xs.toArray ys.toArray fs).run P w=.ok b w
 | [],b,l,he,_=>by cases he;rfl
 |f::fs,b,l,he,hp=>by
  unfold MP at he;split at he
  ·cases he
  ·rename_i hn
   cases hi:((P.underlying f.type).isSome&&(P.info? f.type).isSome)with
   |false=>rw[hi]at he;cases he
   |true=>
    rw[hi]at he;simp only[cond_true]at he;split at he
    ·rename_i b1 l1 c m e1 e2
     cases he;obtain⟨e,o⟩:=ve hp;have a:=A9 g fs c m e2 o;have j:∃u v,(part f.type xs.toArray f.offset).run P w=.ok u w∧(part f.type ys.toArray f.offset).run P w=.ok v w∧(Op.equalIn (d+1) f.type u v).run P w=.ok b1 w:=by
      cases ha:rX P f.type with
      |true=>
       rw[ha]at e1;exact⟨_,_,Fc hi ha,Fc hi ha,g _ _ _ _ _ e1 e⟩
      |false=>
       rw[ha]at e1;simp only[cond_false]at e1;split at e1
       ·rename_i x y hx hy
        exact⟨x,y,CQ hi ha hx,CQ hi ha hy,FH e1 e d⟩
       ·cases e1
     obtain⟨u,v,k,i,n⟩:=j;simp only[Op.eqFields,ne_eq,hn,not_false_eq_true,if_true,Sem.run_bind,k,i,n,Result.andThen_ok];cases b1
     ·rfl
     ·exact a
    ·cases he
theorem vx{w:World}:∀(m:Nat) (t:TypeId) (xs ys:List Value) (b:Bool) (l:List (Option Addr×Option Addr)),Lv P m t xs ys=some (b,l)→pm w.heap l→
  ∀d,(Op.equalIn (d+m+1) t (.agg xs.toArray) (.agg ys.toArray)).run P w=.ok b w
 |0,_,_,_,_,_,he,_,_=>by cases he
 |m+1,t,xs,ys,b,l,he,hp,d=>by
  unfold Lv at he;split at he
  ·rename_i fs hu
   cases hs:P.stoodInHeld t with
   |true=>rw[hs]at he;cases he
   |false=>
    rw[hs]at he;have a:P.fieldsOf t=fs:=by simp[Program.fieldsOf,hu]
    rw[run_equalIn_struct w _ t _ _ (by rw[a];exact hu) hs,a];exact A9 (d:=d+m) (fun t f vs b l c e=>vx m t f vs b l c e d) fs.toList b l he hp
  ·cases he
theorem De{neg b:Bool}{K:RK}{h:ac}{l:List (Option Addr×Option Addr)}(a:PU neg b K h l):∃S,K (.bool (bif neg then !b else b)) S∧L3 S h∧∀h',L3 S h'→pm h' l:=by
 cases l with
 |nil=>exact⟨none,a,trivial,fun _ _=>trivial⟩
 |cons p l=>exact⟨_,a.2,a.1,fun _ h=>h⟩
theorem GT{e:BinOp}{t:TypeId}{xs ys:Array Value}{x y:Operand}{K:RK}{h:ac}(a:NQ P e t xs.toList ys.toList K h):
  ∃v S,K v S∧L3 S h∧∀w:World,L3 S w.heap→(do eqGuard e t x y (.agg xs) (.agg ys);binOp e t (.agg xs) (.agg ys):Sem Value).run P w=.ok v w:=by
 unfold NQ at a;cases hg:P.eqGuardType P.depth t with
 |true=>rw[hg]at a;exact a.elim
 |false=>
  rw[hg]at a;simp only[cond_false]at a;split at a
  ·split at a
   ·rename_i b l he
    obtain⟨S,d,g,f⟩:=De a;refine⟨_,S,d,g,fun w c=>?_⟩
    have:=vx 10 t _ _ b l he (f _ c) 9989;simp only[Array.toArray_toList]at this;simp only[Sem.run_bind,run_eqGuard_agg w _ t x y _ _ hg,Result.andThen_ok,run_eql_struct,this];rfl
   ·exact a.elim
  ·split at a
   ·rename_i b l he
    obtain⟨S,d,g,f⟩:=De a;refine⟨_,S,d,g,fun w c=>?_⟩
    have:=vx 10 t _ _ b l he (f _ c) 9989;simp only[Array.toArray_toList]at this;simp only[Sem.run_bind,run_eqGuard_agg w _ t x y _ _ hg,Result.andThen_ok,run_neq_struct,this];rfl
   ·exact a.elim
  ·exact a.elim
theorem Je{b:UnOp}{x:Value}{K:RK}{h:ac}(a:PD b x K):Yv P (Op.unary b x) K h:=by
 unfold PD at a;split at a
 ·exact .of_pure a fun w=>rfl
 ·exact .of_pure a fun w=>rfl
 ·exact .of_pure a fun w=>rfl
 ·exact a.elim
theorem Bl:∀(l:List UInt8) (s:ByteArray),(l.map fun b=>((b.toNat:Nat):Int)).foldl (fun r n=>r.push (jU n.toNat)) s=⟨s.data++l.toArray⟩
 | [],s=>by simp
 |b::l,s=>by
  simp only[be,List.foldl_cons];rw[Bl l];congr 1
  have:jU ((b.toNat:Nat):Int).toNat=b:=by simp
  rw[this];apply cG;simp[ByteArray.push]
theorem AR{e:TypeId}(h:He P e=true):P.underlying e=some (.int .u8):=by
 unfold He at h;split at h
 ·assumption
 ·cases h
theorem EY{w:World}{a:Addr}{vs:List Value}(b:Row w.heap a vs):(loadCells a vs.length).run P w=.ok vs.toArray w:=by
 have:=run_firstCells_some (P:=P) w 1 vs.length a 0 0 vs (by simp) fun j v c=>by rw[←qU];exact b j v c
 simpa[Builtin.firstCells]using this
theorem E4{j g:TypeId}{x:Value}{K:RK}{h:ac}(f:KT P j g x K h):Yv P (convert j g x) K h:=by
 unfold KT at f;split at f
 ·rename_i k k' k'' n h1 h2
  exact .of_pure f fun w=>by simp only[convert,Sem.run_bind,ar h1,ar h2,Result.andThen_ok];rfl
 ·rename_i s h1 h2
  exact .of_pure f fun w=>by simp only[convert,Sem.run_bind,ar h1,ar h2,Result.andThen_ok];rfl
 ·rename_i e a n c h1 h2
  cases hu:He P e with
  |false=>rw[hu]at f;exact f.elim
  |true=>
   rw[hu]at f;obtain⟨s,t,y⟩:=f;refine⟨_,_,y,t,fun w o=>?_⟩
   rw[run_convert_bytes_string w j g e a n c h1 (AR hu) h2];obtain⟨p,o⟩:=o;rcases o with q|⟨b,rfl,u⟩
   ·have m:s=ByteArray.empty:=by
     have:s.data.toList= []:=by simpa[dy]using q
     cases s with
     |mk d=>simp at this;subst this;rfl
    cases a with
    |none=>rw[m];rfl
    |some b=>
     have z:n=0:=by rw[←p,q];rfl
     subst z;have:=EY (P:=P) (w:=w) (a:=b) (vs:= []) fun i v f=>by simp at f
     rw[run_bytesToString w b 0 c [] (by simpa using this),m];rfl
   ·have:=EY (P:=P) u
    rw[p]at this;rw[run_bytesToString w b n c (s.data.toList.map fun b=>((b.toNat:Nat):Int)) (by rw[this,hP];rfl),Bl]
    cases s;simp[ByteArray.empty,ByteArray.emptyWithCapacity];try rfl
 ·exact f.elim
theorem GY{u:TypeId}{cs:Array Value}{off:Nat}{K:RK}{h:ac}(c:∃d,P.underlying u=some d)(hi:∃i,P.info? u=some i)
  (a:bif rX P u then K (.agg ((cs.toList.drop off).take (bJ P u)).toArray) none else(match cs.toList[off]? with|some v=>K v none|none=>False)):Yv P (part u cs off) K h:=by
 obtain⟨i,hi⟩:=hi;cases ha:rX P u with
 |true=>
  rw[ha]at a;refine .of_pure a fun w=>?_
  have e:(sizeOf u).run P w=.ok (bJ P u) w:=by simp[sizeOf,cz hi,bJ,hi]
  simp only[part,Sem.run_bind,rW hi c,Result.andThen_ok,ha,if_true,e,Sem.run_pure];congr 2
  apply cG;simp[fq]
 |false=>
  rw[ha]at a;simp only[cond_false]at a;cases hc:cs.toList[off]? with
  |none=>rw[hc]at a;exact a.elim
  |some v=>
   rw[hc]at a;refine .of_pure a fun w=>?_
   have b:cs[off]? =some v:=by simpa using hc
   simp only[part,Sem.run_bind,rW hi c,Result.andThen_ok,ha,cf,if_false,b,Sem.run_pure]
def ss(P:Program)(v:Option Value)(d y n:Nat):Prop:=
 match v with
 |some x=>∀c w,(Instr.sliceBound x y c).run P w=.ok n w
 |none=>n=d
theorem ka{v:Option Value}{d y:Nat}{K:Nat→Prop}(a:LJ v d y K):∃n,K n∧ss P v d y n:=by
 unfold LJ at a;split at a
 ·exact⟨d,a,rfl⟩
 ·rename_i k i
  obtain⟨⟨f,b⟩,e⟩:=a;refine⟨i.toNat,e,fun c w=>?_⟩
  simp[Instr.sliceBound,asIntOf,f,b]
 ·exact a.elim
theorem mI{c:Bool}{len cap n l:Nat}{lo hi:Option Value}(a:ss P hi len cap n)(b:ss P lo 0 n l)(w:World):
  (Instr.sliceBounds c len cap lo hi none).run P w=.ok (l,n,cap) w:=by
 cases hi with
 |none=>
  cases lo with
  |none=>simp only[ss]at a b;subst a;subst b;simp[Instr.sliceBounds]
  |some lo=>simp only[ss]at a b;subst a;simp[Instr.sliceBounds,b]
 |some hi=>
  cases lo with
  |none=>simp only[ss]at a b;subst b;simp[Instr.sliceBounds,a]
  |some lo=>simp only[ss]at a b;simp[Instr.sliceBounds,a,b]
theorem xK{c:Bool}{len cap n l m:Nat}{lo:Option Value}{hi d:Value}(hm:ss P (some d) 0 cap m)(a:ss P (some hi) 0 m n)(b:ss P lo 0 n l)(w:World):
  (Instr.sliceBounds c len cap lo (some hi) (some d)).run P w=.ok (l,n,m) w:=by
 cases lo with
 |none=>simp only[ss]at hm a b;subst b;simp[Instr.sliceBounds,hm,a]
 |some lo=>simp only[ss]at hm a b;simp[Instr.sliceBounds,hm,a,b]
theorem uU(a:Option Addr)(l m size:Nat):(if m=l then a else a.map (·.add (l*size)))=aN a l m size:=by
 unfold aN;split
 ·rfl
 ·congr 1;funext x;rw[qU]
theorem mK{t:TypeId}{K:Prop}(h:K2 P t K):K∧∀w,(sizeOf t).run P w=.ok (bJ P t) w:=by
 unfold K2 at h;cases hi:P.info? t with
 |none=>rw[hi]at h;exact h.elim
 |some i=>rw[hi]at h;exact⟨h,fun w=>by simp[sizeOf,cz hi,bJ,hi]⟩
theorem DJ{t:TypeId}{x:Value}{f:Nat}{K:RK}{h:ac}(a:GR P t x f K):Yv P (Instr.field t x f) K h:=by
 unfold GR at a;split at a
 ·rename_i u off cs hf
  obtain⟨k,g,e,c,rfl,rfl⟩:=sW hf;cases hb:((P.underlying g.type).isSome&&(P.info? g.type).isSome)with
  |false=>rw[hb]at a;exact a.elim
  |true=>
   rw[hb]at a;simp only[aS,fM]at hb;obtain⟨v,S,i,d,j⟩:=GY (cs:=cs) (off:=g.offset) (h:=h) hb.1 hb.2 a;refine⟨v,S,i,d,fun w b=>?_⟩
   have:=j w b;simp only[Instr.field,Sem.run_bind,ar e,Result.andThen_ok,c,asAgg,Sem.run_pure,this]
 ·exact a.elim
theorem xT{t:TypeId}{x i:Value}{K:RK}{h:ac}(c:u1 P t x i K):Yv P (Instr.indexAt t x i) K h:=by
 unfold u1 at c;split at c
 ·rename_i n e a k i hu
  obtain⟨⟨⟨j,d⟩,f⟩,g⟩:=mK c;refine .of_pure f fun w=>?_
  simp[Instr.indexAt,asIntOf,ar hu,Instr.sureAddr,j,d,g,qU]
 ·rename_i e b len cap k i hu
  obtain⟨⟨⟨j,d⟩,a,rfl,f⟩,g⟩:=mK c;refine .of_pure f fun w=>?_
  simp[Instr.indexAt,asIntOf,ar hu,j,d,g,qU]
 ·exact c.elim
theorem DI{t:TypeId}{x i:Value}{K:RK}{h:ac}(a:GQ P t x i K):Yv P (Instr.index t x i) K h:=by
 unfold GQ at a;split at a
 ·rename_i s k i hu
  obtain⟨b,d,e,c⟩:=a;refine .of_pure c fun w=>?_
  simp[Instr.index,asIntOf,ar hu,d,e]
 ·exact a.elim
theorem DG{t:TypeId}{x:Value}{lo hi f:Option Value}{K:RK}{h:ac}(b:GO P t x lo hi f K):Yv P (Instr.sliceAt t x lo hi f) K h:=by
 unfold GO at b;split at b
 ·rename_i s hu
  cases f with
  |some _=>exact b.elim
  |none=>
   obtain⟨n,b,d⟩:=ka (P:=P) b;obtain⟨l,b,c⟩:=ka (P:=P) b;refine .of_pure b fun w=>?_
   simp[Instr.sliceAt,Instr.slice,ar hu,mI d c]
 ·rename_i e a len cap hu
  obtain⟨b,g⟩:=mK b;cases f with
  |none=>
   obtain⟨n,b,d⟩:=ka (P:=P) b;obtain⟨l,b,c⟩:=ka (P:=P) b;refine .of_pure b fun w=>?_
   simp[Instr.sliceAt,Instr.slice,ar hu,mI d c,g,uU]
  |some m=>
   cases hi with
   |none=>exact b.elim
   |some hi=>
    obtain⟨j,b,hm⟩:=ka (P:=P) b;obtain⟨n,b,d⟩:=ka (P:=P) b;obtain⟨l,b,c⟩:=ka (P:=P) b;refine .of_pure b fun w=>?_
    simp[Instr.sliceAt,Instr.slice,ar hu,xK hm d c,g,uU]
 ·rename_i n e a hu
  obtain⟨b,g⟩:=mK b;cases f with
  |some _=>exact b.elim
  |none=>
   obtain⟨m,b,d⟩:=ka (P:=P) b;obtain⟨l,b,c⟩:=ka (P:=P) b;refine .of_pure b fun w=>?_
   have i:(some (if n=l then a else a.add (l*bJ P e)))=aN (some a) l n (bJ P e):=by
    rw[←uU];split<;>rfl
   simp[Instr.sliceAt,ar hu,Instr.sureAddr,mI d c,g,i]
 ·exact b.elim
def l9(d:TypeDesc)(c:CK):Prop:=(∃i,d=.int i∧c=.int i)∨(d=.string∧c=.str)∨(d=.bool∧c=.bool)
theorem sL{t:TypeId}{c:CK}{e:TypeId}(h:Ft P t=some (c,e)):∃k d,P.underlying t=some (.map k e)∧P.underlying k=some d∧l9 d c:=by
 unfold Ft at h;split at h
 ·rename_i k e' hu
  split at h
  ·rename_i i hk
   simp only[bE.injEq,nh.injEq]at h;obtain⟨rfl,rfl⟩:=h;exact⟨k,_,hu,hk,.inl ⟨i,rfl,rfl⟩⟩
  ·rename_i hk
   simp only[bE.injEq,nh.injEq]at h;obtain⟨rfl,rfl⟩:=h;exact⟨k,_,hu,hk,.inr (.inl ⟨rfl,rfl⟩)⟩
  ·rename_i hk
   simp only[bE.injEq,nh.injEq]at h;obtain⟨rfl,rfl⟩:=h;exact⟨k,_,hu,hk,.inr (.inr ⟨rfl,rfl⟩)⟩
  ·cases h
 ·cases h
theorem yS{d:TypeDesc}{c:CK}(hd:l9 d c)(x y:c.den):Instr.sameNow d (c.enc x) (c.enc y)=some (eT (c.enc x) (c.enc y)):=by
 rcases hd with⟨i,rfl,rfl⟩|⟨rfl,rfl⟩|⟨rfl,rfl⟩
 ·simp[Instr.sameNow,CK.enc,eT]
 ·simp[Instr.sameNow,CK.enc,eT]
 ·simp[Instr.sameNow,CK.enc,eT]
theorem y4{d:TypeDesc}{c:CK}(hd:l9 d c)(x:c.den):∀(es:List MapEntry) (i:Nat),keysOf c es→
  ∃r,Instr.findNow d (c.enc x) es i=some r∧r.map (·.2)=A0 (c.enc x) es
 | [],i,_=>⟨none,rfl,rfl⟩
 |e::es,i,h=>by
  obtain⟨y,f⟩:=h e (by simp);have a:=yS hd x y;rw[←f]at a;simp only[Instr.findNow,A0];cases hb:eT (c.enc x) e.key with
  |true=>rw[a,hb];exact⟨some (i,e.val),rfl,rfl⟩
  |false=>rw[a,hb];exact y4 hd x es (i+1) fun g b=>h g (by simp[b])
theorem FO{a:Bool}{k:TypeId}{d:TypeDesc}{c:CK}(hd:l9 d c)(b:P.underlying k=some d)(v:Value)(n:Nat)(w:World):(Instr.checkKey a (n+1) k v).run P w=.ok () w:=by
 unfold Instr.checkKey;simp only[Sem.run_bind,ar b,Result.andThen_ok];rcases hd with⟨i,rfl,rfl⟩|⟨rfl,rfl⟩|⟨rfl,rfl⟩<;>rfl
theorem rO{k:TypeId}{d:TypeDesc}{c:CK}(hd:l9 d c)(b:P.underlying k=some d)(x:c.den){es:List MapEntry}(h:keysOf c es)(w:World):
  ∃r,(Instr.findKey k (c.enc x) es).run P w=.ok r w∧Instr.findNow d (c.enc x) es 0=some r∧r.map (·.2)=A0 (c.enc x) es:=by
 obtain⟨r,a,hm⟩:=y4 hd x es 0 h;refine⟨r,?_,a,hm⟩;simp only[Instr.findKey,Sem.run_bind,ar b,Result.andThen_ok,a,Sem.run_pure]
theorem jI{w:World}{r:Nat}{es:Array MapEntry}{a:Nat}(h:w.heap[r]? =some (.map es a)):(getObj r).run P w=.ok (.map es a) w:=by
 simp only[getObj,Sem.run,h]
theorem kS{a:Bool}{k:TypeId}{d:TypeDesc}{c:CK}(hd:l9 d c)(b:P.underlying k=some d)(v:Value)(w:World):(Instr.checkKey a 10000 k v).run P w=.ok () w:=
 FO hd b v 9999 w
theorem G7{t:TypeId}{c:CK}{e k:TypeId}{d:TypeDesc}(p:P.underlying t=some (.map k e))(f:P.underlying k=some d)(hd:l9 d c){m:Option Nat}{x:c.den}{z v:Value}{b ok:Bool}{w:World}
  (q:(zeroValue e).run P w=.ok z w)(hm:tE c z w.heap m (c.enc x) v b):
  (Instr.lookup t (.map m) (c.enc x) ok).run P w=.ok (bif ok then .tuple #[v,.bool b]else v) w:=by
 cases m with
 |none=>
  obtain⟨rfl,rfl⟩:=hm;simp only[Instr.lookup,Sem.run_bind,ar p,Result.andThen_ok,Sem.run_pure,kS hd f];obtain⟨r,i,o,a⟩:=rO (P:=P) hd f x (es:= []) (fun _ h=>by cases h) w
  simp only[Instr.findNow,bE.injEq]at o;subst o;simp[i,q]
 |some r=>
  obtain⟨es,n,s,j,g⟩:=hm;simp only[Instr.lookup,Sem.run_bind,ar p,Result.andThen_ok,jI s,Sem.run_pure,kS hd f];obtain⟨r,i,o,a⟩:=rO (P:=P) hd f x j w;simp only[i,Result.andThen_ok];cases r with
  |none=>
   simp only[Option.map_none]at a;rw[←a]at g;obtain⟨rfl,rfl⟩:=g;simp[q]
  |some r=>
   simp only[je]at a;rw[←a]at g;obtain⟨rfl,rfl⟩:=g;cases ok<;>rfl
theorem dZ{e:TypeId}{z:Value}(h:uq P e=some z)(w:World):(zeroValue e).run P w=.ok z w:=by
 unfold uq at h;cases hi:P.info? e with
 |none=>rw[hi]at h;cases h
 |some i=>rw[hi]at h;simp only at h;simp[zeroValue,cz hi,h]
theorem BZ{t:TypeId}{x k:Value}{ok:Bool}{K:RK}{h:ac}(a:DH P t x k ok K h):Yv P (Instr.lookup t x k ok) K h:=by
 unfold DH at a;split at a
 ·rename_i c e m hc
  obtain⟨n,d,g,i,hd⟩:=sL hc;obtain⟨o,rfl,a⟩:=CK.dec_sound a;split at a
  ·rename_i ek z hek hz
   obtain⟨y,b,hm,j⟩:=a;exact⟨_,_,j,hm,fun w f=>G7 g i hd (dZ hz w) f⟩
  ·exact a.elim
 ·exact a.elim
theorem yU{w:World}{b cap s q:Nat}{buf:Array Value}{a t:Bool}(h:w.heap[b]? =some (.chan cap buf a s q t)):(getObj b).run P w=.ok (.chan cap buf a s q t) w:=by
 simp only[getObj,Sem.run,h]
theorem GP{t:TypeId}{x:Value}{ats:Array TypeId}{ty:TypeId}{K:RK}{h:ac}(a:ats[0]? =some t) (d:NO P t x K h):Yv P (Builtin.len_ ats ty #[x]) K h:=by
 unfold NO at d;split at d
 ·rename_i s hu
  exact .of_pure d fun w=>by simp[Builtin.len_,a,ar hu,goInt]
 ·rename_i n e _ hu
  exact .of_pure d fun w=>by simp[Builtin.len_,a,ar hu,goInt]
 ·rename_i e b n c hu
  exact .of_pure d fun w=>by simp[Builtin.len_,a,ar hu,goInt]
 ·rename_i k e m hu
  obtain⟨n,hm,j⟩:=d;refine⟨_,_,j,hm,fun w f=>?_⟩
  cases m with
  |none=>
   have:n=0:=f;subst this;simp[Builtin.len_,a,ar hu,goInt]
  |some r=>
   obtain⟨es,g,i,rfl⟩:=f;simp[Builtin.len_,a,ar hu,goInt,jI i]
 ·rename_i k e m hu
  obtain⟨n,hm,j⟩:=d;refine⟨_,_,j,hm,fun w f=>?_⟩
  cases m with
  |none=>
   have:n=0:=f;subst this;simp[Builtin.len_,a,ar hu,goInt]
  |some r=>
   obtain⟨cap,buf,o,s,q,i,rfl⟩:=f;simp[Builtin.len_,a,ar hu,goInt,yU i]
 ·exact d.elim
theorem GS{t:TypeId}{x:Value}{ats:Array TypeId}{ty:TypeId}{K:RK}{h:ac}(a:ats[0]? =some t) (d:NP P t x K h):Yv P (Builtin.cap_ ats ty #[x]) K h:=by
 unfold NP at d;split at d
 ·rename_i e b n c hu
  exact .of_pure d fun w=>by simp[Builtin.cap_,a,ar hu,goInt]
 ·rename_i k e m hu
  obtain⟨n,hm,i⟩:=d;refine⟨_,_,i,hm,fun w f=>?_⟩
  cases m with
  |none=>
   have:n=0:=f;subst this;simp[Builtin.cap_,a,ar hu,goInt]
  |some r=>
   obtain⟨cap,buf,j,s,q,g,rfl⟩:=f;simp[Builtin.cap_,a,ar hu,goInt,yU g]
 ·exact d.elim
theorem wB{c:Bool}{k:IntKind}:∀{vs:List Value} {a:Int} {f:Value→Prop},DY c k a vs f→∃v,f v∧∀w,(vs.foldlM (bif c then Builtin.max2 else Builtin.min2) (Value.int k a):Sem Value).run P w=.ok v w
 | [],a,f,h=>⟨_,h,fun w=>by simp⟩
 | .int k' b::vs,a,f,h=>by
  simp only[DY]at h;cases hk:D2 k' k with
  |false=>rw[hk]at h;exact h.elim
  |true=>
   rw[hk]at h;have:=wF hk;subst this;obtain⟨v,e,d⟩:=wB h;refine⟨v,e,fun w=>?_⟩
   rw[←d w];cases c<;>simp[List.foldlM_cons,Builtin.max2,Builtin.min2]
theorem uA{a:Bool}{vs:List Value}{f:Value→Prop}{ats:Array TypeId}{ty:TypeId}(h:zS a vs f):∃v,f v∧∀w,(bif a then Builtin.max_ ats ty vs.toArray else Builtin.min_ ats ty vs.toArray).run P w=.ok v w:=by
 unfold zS at h;split at h
 ·obtain⟨v,c,b⟩:=wB (P:=P) h
  refine⟨v,c,fun w=>?_⟩
  have:=b w;cases a<;>simpa[Builtin.max_,Builtin.min_]using this
 ·exact h.elim
theorem JA{a:Addr}{e:MapEntry}{w:World}(i:a.off=0)(h:HF w.heap a.block e):(Instr.entry (.pointer (some a))).run P w=.ok (.tuple #[e.key,e.val]) w:=by
 obtain⟨m,c,d,last,f,es,hi,k,hm,n⟩:=h;obtain⟨b,off,g⟩:=a;simp only at i hi;subst i;have j:(getObj b).run P w=.ok (.mapIter (some m) c d last) w:=by simp only[getObj,Sem.run,hi]
 simp[Instr.entry,j,k,jI hm,n]
def Cq:DV→Value→Prop
 | .t,v=>v=.bool true
 | .f,v=>v=.bool false
 | .u,v=>v=undef
 | .x,_=>True
def DecOk(d:rD)(r:cg):Prop:=∀t,oI d t=.x∨∃v,iE r t=some v∧Cq (oI d t) v
theorem DecOk.at{d:rD}{r:cg}(h:DecOk d r){t:Nat}{v:Value}(c:iE r t=some v):Cq (oI d t) v:=by
 rcases h t with e|⟨u,a,b⟩
 ·rw[e];trivial
 ·rw[c]at a;cases a;exact b
theorem rj{d:rD}{r:cg}(hd:DecOk d r){o:Operand}{v:Value}(h:cU r o=some v):Cq (wL d o) v:=by
 cases o with
 |tmp t=>exact hd.at h
 |const c=>
  simp[cU]at h;subst h;cases c with
  |bool b=>cases b<;>exact rfl
  |_=>trivial
 |global g=>trivial
 |func f=>trivial
theorem yX{t:TypeId}(h:nr P t=true):∃d,P.underlying t=some d∧∀m,d≠ .interface m:=by
 unfold nr at h;split at h
 ·cases h
 ·rename_i d hd;exact⟨_,hd,fun m e=>by subst e;simp_all⟩
 ·cases h
theorem wE{t:TypeId}{v:Value}(h:nr P t=true)(w:World):(Instr.makeInterface t v).run P w=.ok (.iface t v) w:=by
 obtain⟨d,hd,a⟩:=yX h;simp only[Instr.makeInterface,Sem.run_bind,ar hd,Result.andThen_ok];cases d<;>first|exact absurd rfl (a _)|rfl
theorem Al{t u:TypeId}{v:Value}(h:nr P t=true)(w:World):(Instr.typeAssert (.iface t v) u t false).run P w=.ok v w:=by
 obtain⟨d,hd,a⟩:=yX h;simp only[Instr.typeAssert,Sem.run_bind,ar hd,Result.andThen_ok];cases d<;>first|exact absurd rfl (a _)|(simp[Sem.run_pure])
theorem iB{t:TypeId}{z:List Value}(h:nX P t=some z):∃v,uq P t=some v∧v.cells.toList=z:=by
 unfold nX at h;cases hz:uq P t with
 |none=>rw[hz]at h;cases h
 |some v=>rw[hz]at h;simp only[bE.injEq]at h;exact⟨v,rfl,h⟩
theorem oW{t:TypeId}{v:Value}(h:uq P t=some v):∃i,P.info? t=some i∧i.zero=some v:=by
 unfold uq at h;cases hi:P.info? t with
 |none=>rw[hi]at h;cases h
 |some i=>rw[hi]at h;exact⟨i,rfl,h⟩
theorem Ly{A B:List Value}{x:Value}{m:Nat}(h:A.length=m):(A++x::B).take (m+1)=A++ [x]:=by
 subst h;rw[List.take_append,bC (by omega),show A.length+1-A.length=1 by omega];rfl
theorem Lz{A B:List Value}{x:Value}{m n:Nat}(h:A.length=m):(A++x::B).drop (m+1+n)=B.drop n:=by
 subst h;rw[List.drop_append,List.drop_eq_nil_of_le (by omega),show A.length+1+n-A.length=n+1 by omega];rfl
theorem FF(off:Nat):∀(xs:List Value) (k:Nat) (arr:Array Value),off+k+xs.length≤arr.size→
  (xs.zipIdx k).foldl (fun cs (c,j)=>cs.setIfInBounds (off+j) c) arr=(E7 arr.toList (off+k) xs).toArray
 | [],k,arr,_=>by simp[E7]
 |x::xs,k,arr,h=>by
  simp only[az]at h;simp only[List.zipIdx_cons,List.foldl_cons];rw[FF off xs (k+1) _ (by simp;omega)];have hm:off+k<arr.toList.length:=by simp;omega
  have b:arr.toList.set (off+k) x=arr.toList.take (off+k)++x::arr.toList.drop (off+k+1):=by
   rw[List.set_eq_take_append_cons_drop,if_pos hm]
  have a:(arr.toList.take (off+k)).length=off+k:=by simp;omega
  congr 1
  unfold E7;rw[Array.toList_setIfInBounds,b,←Nat.add_assoc,Ly a,Lz a];simp only[List.append_assoc,gn,List.nil_append,az,List.drop_drop];rw[show off+k+1+xs.length=off+k+(xs.length+1) by omega]
theorem qh{a:Nat→Option (Nat×Nat)}:∀(parts:List (Nat×Value)) (cs cs':List Value),y5 a cs parts=some cs'→Instr.fill a cs.toArray parts=some cs'.toArray
 | [],cs,cs',h=>by simp only[y5,bE.injEq]at h;subst h;rfl
 |(i,v)::rest,cs,cs',h=>by
  simp only[y5]at h;cases hp:a i with
  |none=>rw[hp]at h;cases h
  |some os=>
   obtain⟨off,size⟩:=os;rw[hp]at h;simp only at h;cases hb:(bj v.cells.toList.length size&&ue (off+v.cells.toList.length) cs.length)with
   |false=>rw[hb]at h;cases h
   |true=>
    rw[hb]at h;simp only[aS]at hb;have b:=aJ hb.1;have g:=gN hb.2;have d:=qh rest _ _ h;have e:v.cells.size=size:=by simpa using b
    have c:off+v.cells.size≤cs.length:=by simpa using g
    have f:Array.foldl (fun cs x=>cs.setIfInBounds (off+x.2) x.1) cs.toArray v.cells.zipIdx=(E7 cs off v.cells.toList).toArray:=by
     have:=FF off v.cells.toList 0 cs.toArray (by simpa using c);simp only[fe]at this;rw[←this,←Array.foldl_toList];congr 1
     simp[Array.toList_zipIdx]
    simp only[Instr.fill,hp];rw[if_neg (by simp[e];omega)];simp only[f];exact d
theorem lU{N:Nat}{r:cg}{a:Act}(h:Agree N r a):∀{ps:List (Nat×Operand)} {vs:List (Nat×Value)},nq r ps=some vs→ps.map (fun p=>(p.1,a.eval p.2))=vs
 | [],vs,hv=>by simp[nq]at hv;subst hv;rfl
 |(i,o)::ps,vs,hv=>by
  simp only[nq]at hv;cases ho:cU r o with
  |none=>simp[ho]at hv
  |some v=>cases hos:nq r ps with
   |none=>simp[ho,hos]at hv
   |some us=>simp[ho,hos]at hv;subst hv;simp[iG h ho,lU h hos]
theorem nB{t:TypeId}(h:tY P t=true)(w:World):(sizeOf t).run P w=.ok (bJ P t) w:=by
 unfold tY at h;cases hi:P.info? t with
 |none=>rw[hi]at h;cases h
 |some i=>simp[sizeOf,cz hi,bJ,hi]
theorem AH(w:World):∀l:List Field,wR P l=true→(l.mapM fun f:Field=>((do pure (f.offset,←sizeOf f.type)):Sem (Nat×Nat))).run P w=.ok (l.map fun f:Field=>(f.offset,bJ P f.type)) w
 | [],_=>rfl
 |f::l,h=>by
  simp only[wR]at h;cases hf:tY P f.type with
  |false=>rw[hf]at h;cases h
  |true=>
   rw[hf]at h;rw[List.mapM_cons];simp only[Sem.run_bind,nB hf,Result.andThen_ok,Sem.run_pure,AH w l h,be]
theorem wQ{t:TypeId}{ps:Array (Nat×Value)}{cs:List Value}(a:Ec P t ps.toList=some cs)(w:World):
  (Instr.build t ps).run P w=.ok (.agg cs.toArray) w:=by
 unfold Ec at a;split at a
 ·rename_i fs z hu d
  obtain⟨v,d,k⟩:=iB d;cases ha:wR P fs.toList with
  |false=>rw[ha]at a;cases a
  |true=>
   rw[ha]at a;have j:(fs.mapM fun f:Field=>((do pure (f.offset,←sizeOf f.type)):Sem (Nat×Nat))).run P w=.ok (fs.map fun f:Field=>(f.offset,bJ P f.type)) w:=by
    rw[Array.mapM_eq_mapM_toList];simp only[Sem.run_map,AH w fs.toList ha,Result.andThen_ok];congr 1
    apply cG;simp
   have g:=qh _ _ _ a;have b:(fun i:Nat=>(fs.map fun f:Field=>(f.offset,bJ P f.type))[i]?)=GX P fs.toList:=by
    funext i;unfold GX;rw[Array.getElem?_map,aR];cases fs[i]?<;>rfl
   have c:v.cells=z.toArray:=by rw[←k]
   rw[cond_true]at a;rw[←b]at g;simp only[Instr.build,Sem.run_bind,dZ d,Result.andThen_ok,ar hu,j,c,g,Sem.run_pure]
 ·rename_i n e z hu d
  obtain⟨v,d,k⟩:=iB d;cases ha:tY P e with
  |false=>rw[ha]at a;cases a
  |true=>
   rw[ha]at a;have g:=qh _ _ _ a;have c:v.cells=z.toArray:=by rw[←k]
   simp only[Instr.build,Sem.run_bind,dZ d,Result.andThen_ok,ar hu,nB ha,c,g,Sem.run_pure]
 ·cases a
theorem xS{ek:Option (Kind×Kind)}{o:Oper}{r:cg}{K:RK}{h:ac}{N:Nat}{a:Act}(R:Agree N r a)(g:xC P ek o.op r K h)(d:rD)(hd:DecOk d r):
  ∃v S,K v S∧L3 S h∧Cq (Ew d o.op) v∧∀w:World,L3 S w.heap→(execOp a.eval o).run P w=.ok (.value v) w:=by
 have j:∀{x:Operand} {v:Value},cU r x=some v→a.eval x=v:=fun h=>iG R h
 have A:∀{s:Sem Value},Yv P s K h→Ew d o.op=.x→(∀w,(execOp a.eval o).run P w=(do pure (Next.value (←s)):Sem Next).run P w)→
   ∃v S,K v S∧L3 S h∧Cq (Ew d o.op) v∧∀w:World,L3 S w.heap→(execOp a.eval o).run P w=.ok (.value v) w:=by
  rintro s ⟨v,S,n,B,z⟩ hx G;exact⟨v,S,n,B,by rw[hx];trivial,fun w C=>by rw[G w];exact gU (z w C)⟩
 obtain⟨U,O,type,pos,F,H⟩:=o;simp only at g A⊢;cases O with
 |move x=>
  simp only[xC]at g;split at g
  ·rename_i v hv
   exact⟨v,none,g,trivial,rj hd hv,fun w _=>by simp[execOp,j hv]⟩
  ·exact g.elim
 |assign x=>
  simp only[xC]at g;split at g
  ·rename_i v hv
   exact⟨v,none,g,trivial,rj hd hv,fun w _=>by simp[execOp,j hv]⟩
  ·exact g.elim
 |pick c x y=>
  simp only[xC]at g;split at g
  ·rename_i vc va vb hc hx V
   unfold Nn at g;split at g
   ·rename_i cb
    have J:=rj hd hc;have X:=rj hd hx;have W:=rj hd V;have G:∀w,(execOp a.eval ⟨U,.pick c x y,type,pos,F,H⟩).run P w=.ok (.value (if cb then va else vb)) w:=fun w=>by
     simp[execOp,j hc,j hx,j V,asBool]
    have I:Cq (Ew d (.pick c x y)) (if cb then va else vb):=by
     simp only[Ew];cases hcd:wL d c with
     |t=>
      rw[hcd]at J;have:cb=true:=by simpa[Cq]using J
      subst this;exact X
     |f=>
      rw[hcd]at J;have:cb=false:=by simpa[Cq]using J
      subst this;exact W
     |u=>trivial
     |x=>trivial
    split at g
    ·rename_i bx by'
     have Q:(if cb=true then Value.bool bx else Value.bool by')=.bool (bif cb then bx else by'):=by cases cb<;>rfl
     rw[Q]at I;exact⟨_,none,g,trivial,I,fun w _=>by rw[G w,Q]⟩
    ·cases cb
     ·exact⟨_,none,g,trivial,I,fun w _=>G w⟩
     ·exact⟨_,none,g,trivial,I,fun w _=>G w⟩
   ·exact g.elim
  ·exact g.elim
 |load t x=>
  simp only[xC]at g;split at g
  ·rename_i v hv
   obtain⟨u,S,n,B,z⟩:=yW g;exact A ⟨u,some S,n,B,z⟩ rfl fun w=>by simp only[execOp,j hv]
  ·exact g.elim
 |nilCheck x=>
  simp only[xC]at g;split at g
  ·rename_i p hv
   obtain⟨b,rfl,n⟩:=g;exact⟨_,none,n,trivial,trivial,fun w _=>by simp[execOp,j hv]⟩
  ·exact g.elim
 |binOp O t x y yt=>
  simp only[xC]at g;split at g
  ·rename_i v u hn hv hu
   have go:(∀c d,v=.agg c→u=.agg d→False)∧(v=.nilIface→u=.nilIface→False)∧Yv P (binOp O t v u) K h:=by
    split at g
    ·exact AJ (neg:=false) g
    ·exact AJ (neg:=true) g
    ·exact AG g
   obtain⟨h1,h2,T,S,n,B,z⟩:=go;refine⟨T,S,n,B,trivial,fun w C=>?_⟩
   simp only[execOp,j hv,j hu];simp[A8 O t x y v u h1 h2 w,z w C]
  ·rename_i v u hn hv hu
   obtain⟨T,S,n,B,z⟩:=GT (x:=x) (y:=y) g;refine⟨T,S,n,B,trivial,fun w C=>?_⟩
   simp only[execOp,j hv,j hu];exact gU (z w C)
  ·rename_i v u hna hn hv hu
   obtain⟨h1,h2,T,S,n,B,z⟩:=AG g;refine⟨T,S,n,B,trivial,fun w C=>?_⟩
   simp only[execOp,j hv,j hu];simp[A8 O t x y v u h1 h2 w,z w C]
  ·exact g.elim
 |unOp O t x=>
  simp only[xC]at g;split at g
  ·rename_i v hv
   obtain⟨u,S,n,B,z⟩:=Je (P:=P) (h:=h) g;refine⟨u,S,n,B,?_,fun w C=>by simp only[execOp,j hv];exact gU (z w C)⟩
   have L:=rj hd hv;cases O<;>try trivial
   simp only[Ew];have D:=z {(default:World)with heap:=h} B;cases hx:wL d x with
   |t=>
    rw[hx]at L;have:v=.bool true:=L;subst this;simp[Op.unary]at D;exact D.symm
   |f=>
    rw[hx]at L;have:v=.bool false:=L;subst this;simp[Op.unary]at D;exact D.symm
   |u=>trivial
   |x=>trivial
  ·exact g.elim
 |convert s t x=>
  simp only[xC]at g;split at g
  ·rename_i v hv
   exact A (E4 g) rfl fun w=>by simp only[execOp,j hv]
  ·exact g.elim
 |extract x i=>
  simp only[xC]at g;split at g
  ·rename_i vs hv
   split at g
   ·rename_i u hu
    have Z:vs[i]? =some u:=by simpa using hu
    exact⟨u,none,g,trivial,trivial,fun w _=>by simp[execOp,j hv,Instr.extract,Z]⟩
   ·exact g.elim
  ·exact g.elim
 |fieldAddr t x f=>
  simp only[xC]at g;split at g
  ·rename_i b u off hv hf
   exact A (zD hf g) rfl fun w=>by simp only[execOp,j hv]
  ·exact g.elim
 |field t x f=>
  simp only[xC]at g;split at g
  ·rename_i v hv
   exact A (DJ g) rfl fun w=>by simp only[execOp,j hv]
  ·exact g.elim
 |indexAddr t x i=>
  simp only[xC]at g;split at g
  ·rename_i v u hv hu
   exact A (xT g) rfl fun w=>by simp only[execOp,j hv,j hu]
  ·exact g.elim
 |index t x i=>
  simp only[xC]at g;split at g
  ·rename_i v u hv hu
   exact A (DI g) rfl fun w=>by simp only[execOp,j hv,j hu]
  ·exact g.elim
 |slice t x lo hi mx=>
  simp only[xC]at g;split at g
  ·rename_i v l h' m hv hl hh hm
   have Y:∀{x:Option Operand} {v:Option Value},CS r x=some v→x.map a.eval=v:=by
    intro x v hx;cases x with
    |none=>simp[CS]at hx;subst hx;rfl
    |some x=>
     simp only[CS]at hx;cases G:cU r x with
     |none=>simp[G]at hx
     |some u=>simp[G]at hx;subst hx;simp[j G]
   exact A (DG g) rfl fun w=>by simp only[execOp,j hv,Y hl,Y hh,Y hm]
  ·exact g.elim
 |lookup t x k ok=>
  simp only[xC]at g;split at g
  ·rename_i v u hv hu
   exact A (BZ g) rfl fun w=>by simp only[execOp,j hv,j hu]
  ·exact g.elim
 |makeInterface t x=>
  simp only[xC]at g;split at g
  ·rename_i v hv
   cases hb:nr P t with
   |false=>rw[hb]at g;exact g.elim
   |true=>
    rw[hb,cond_true]at g;exact⟨_,none,g,trivial,trivial,fun w _=>by simp only[execOp,j hv];exact gU (wE hb w)⟩
  ·exact g.elim
 |typeAssert x u t ok=>
  simp only[xC]at g;split at g
  ·rename_i v hv
   cases ok with
   |true=>exact g.elim
   |false=>
    rw[cond_false]at g;unfold Ik at g;cases hb:nr P t with
    |false=>rw[hb]at g;exact g.elim
    |true=>
     rw[hb,cond_true]at g;split at g
     ·obtain⟨y,rfl,n⟩:=g
      exact⟨_,none,n,trivial,trivial,fun w _=>by simp only[execOp,j hv];exact gU (Al hb w)⟩
     ·exact g.elim
  ·exact g.elim
 |makeFunc fn first cap=>
  simp only[xC]at g;split at g
  ·rename_i vs us hv hu
   have Q:=j1 R hv;have e2:=j1 R hu;refine⟨_,none,g,trivial,trivial,fun w _=>?_⟩
   have f1:first.map a.eval=vs.toArray:=by rw[←Q];apply cG;simp
   have f2:cap.map a.eval=us.toArray:=by rw[←e2];apply cG;simp
   simp[execOp,Instr.makeFunc,f1,f2]
  ·exact g.elim
 |entry it=>
  simp only[xC]at g;split at g
  ·rename_i b kk vk hv
   obtain⟨h0,e,x,y,hi,n,V,hK⟩:=g;refine⟨_,_,hK,hi,trivial,fun w C=>?_⟩
   simp only[execOp,j hv];refine gU ?_;rw[JA h0 C,n,V]
  ·exact g.elim
 |call c=>
  simp only[xC]at g;have E:∀{b:Builtin} {vs:List Value},c.callee=.builtin b→lq r c.args.toList=some vs→∃cs:Array Bool,∀w,(execOp a.eval ⟨U,.call c,type,pos,F,H⟩).run P w=
    (builtin b c.argTypes type cs vs.toArray).run P w:=by
   intro b vs hc q;have Q:=j1 R q;have f1:c.args.map a.eval=vs.toArray:=by rw[←Q];apply cG;simp
   refine⟨c.args.map fun| .const _=>true|_=>false,fun w=>?_⟩
   simp[execOp,resolve,hc,f1,invoke];rfl
  split at g
  ·rename_i v t hc q hat
   obtain⟨cs,E⟩:=E hc q;obtain⟨u,S,n,B,z⟩:=GP (ats:=c.argTypes) (ty:=type) (by rw[←aR,hat];rfl) g;exact⟨u,S,n,B,trivial,fun w C=>by rw[E w];simp only[builtin];exact gU (z w C)⟩
  ·rename_i v t hc q hat
   obtain⟨cs,E⟩:=E hc q;obtain⟨u,S,n,B,z⟩:=GS (h:=h) (ats:=c.argTypes) (ty:=type) (by rw[←aR,hat];rfl) g;exact⟨u,S,n,B,trivial,fun w C=>by rw[E w];simp only[builtin];exact gU (z w C)⟩
  ·rename_i vs hc q
   obtain⟨cs,E⟩:=E hc q;obtain⟨u,n,z⟩:=uA (P:=P) (ats:=c.argTypes) (ty:=type) g;exact⟨u,none,n,trivial,trivial,fun w _=>by rw[E w];simp only[builtin];exact gU (z w)⟩
  ·rename_i vs hc q
   obtain⟨cs,E⟩:=E hc q;obtain⟨u,n,z⟩:=uA (P:=P) (ats:=c.argTypes) (ty:=type) g;exact⟨u,none,n,trivial,trivial,fun w _=>by rw[E w];simp only[builtin];exact gU (z w)⟩
  ·exact g.elim
 |build t ps=>
  simp only[xC]at g;split at g
  ·rename_i vs q
   split at g
   ·rename_i cs hcs
    refine⟨_,none,g,trivial,trivial,fun w _=>?_⟩
    have hp:(ps.map fun x=>(x.1,a.eval x.2))=vs.toArray:=by
     rw[←lU R q];apply cG;simp
    have G:=wQ (ps:=vs.toArray) (by simpa using hcs) w;simp only[execOp];rw[show(ps.map fun(i,x)=>(i,a.eval x))=vs.toArray from hp]
    exact gU G
   ·exact g.elim
  ·exact g.elim
 |_=>simp only[xC]at g
end Go.Lift
namespace Go.Lift
open Go
variable {P:Program}
def FU(P:Program)(s:Sem Next)(K:WK)(w:World):Prop:=
 (∃v w',s.run P w=.ok (.value v) w'∧Tame w w'∧K v w'.heap)∨
 (∃w',s.run P w=.ok .skip w'∧Tame w w'∧K undef w'.heap)∨
 (∃f args,s.run P w=.ok (.enter f args) w∧Calls P f args w fun e w'=>Tame w w'∧∃v,e=.returned v∧K v w'.heap)∨
 (∃l fn tmps assign body,s.run P w=.ok (.round l fn tmps assign body) w∧
  ∀(c:Frame) (cs:List Frame),∃b w',Tame w w'∧K (.bool b) w'.heap∧Steps P (lone (Frame.round l fn tmps assign body .normal) (c::cs) w) (lone (c.finish (.bool b)) cs w'))
def Wv(P:Program)(s:Sem Value)(K:WK)(w:World):Prop:=∃v w',s.run P w=.ok v w'∧Tame w w'∧K v w'.heap
theorem Wv.out{s:Sem Value}{K:WK}{w:World}(h:Wv P s K w):FU P (do pure (Next.value (←s))) K w:=by
 obtain⟨v,w',b,a,c⟩:=h;exact .inl ⟨v,w',gU b,a,c⟩
def Wu(P:Program)(s:Sem Unit)(K:WK)(w:World):Prop:=∃w',s.run P w=.ok () w'∧Tame w w'∧K undef w'.heap
theorem Wu.out{s:Sem Unit}{K:WK}{w:World}(h:Wu P s K w):FU P (do s;pure Next.skip) K w:=by
 obtain⟨w',b,a,c⟩:=h;exact .inr (.inl ⟨w',KL b,a,c⟩)
def iC(w:World)(h:ac):World:={w with heap:=h}
theorem dV(w:World)(h:ac):Tame w (iC w h):=⟨rfl,rfl,rfl⟩
theorem iM(e:TypeId)(cs:Array Value)(w:World):(newRow e cs).run P w=.ok (bc w.heap) (iC w (hnew w.heap cs.toList e)):=by
 simp[newRow,newObj,Sem.run,bc,iC,hnew,bind,Sem.bind,pure]
theorem AB(o:Obj)(w:World):(newObj o).run P w=.ok w.heap.size (iC w (w.heap.push o)):=rfl
theorem B8{h:ac}{a b:Addr}(v:Value)(c:a≠b):aF (hset h a v) b=aF h b:=
 World.cell?_setCell_other {(default:World)with heap:=h} a b v c
theorem zB{h:ac}{a:Addr}{u:Value}(v:Value)(hc:aF h a=some u):aF (hset h a v) a=some v:=
 World.cell?_setCell_same {(default:World)with heap:=h} a v hc
theorem D3{h:ac}{a b:Addr}(v:Value):zW (hset h a v) b=zW h b:=
 World.frozen?_setCell {(default:World)with heap:=h} a b v
theorem Wr.hset{h:ac}{a b:Addr}(v:Value)(d:Wr h b):Wr (hset h a v) b:=by
 obtain⟨⟨u,c⟩,f⟩:=d;refine⟨?_,by rw[D3];exact f⟩
 by_cases e:a=b
 ·subst e;exact⟨v,zB v c⟩
 ·exact⟨u,by rw[B8 v e];exact c⟩
theorem GI{w:World}{a:Addr}{v:Value}(i:∀cs,v≠ .agg cs)(b:∀cs,v≠ .tuple cs)(e:Wr w.heap a):(store a v).run P w=.ok () (iC w (hset w.heap a v)):=by
 obtain⟨⟨u,f⟩,g⟩:=e;have c:w.cell? a=some u:=f;have d:w.frozen? a=false:=g;cases v<;>first|exact absurd rfl (i _)|exact absurd rfl (b _)|(simp only[store,Sem.run,c,d];rfl)
theorem DS{v:Value}{vs:List Value}(h:bR (v::vs)=true):(∀cs,v≠ .agg cs)∧(∀cs,v≠ .tuple cs)∧bR vs=true:=by
 simp only[bR,aS]at h;refine⟨fun cs e=>?_,fun cs e=>?_,h.2⟩<;>(subst e;exact absurd h.1 (by simp))
theorem ph{a:Addr}:∀(vs:List Value) (i:Nat) (w:World),bR vs=true→(∀j,j<vs.length→Wr w.heap (adr a (i+j)))→
  (storeCells a vs i).run P w=.ok () (iC w (ie w.heap a i vs))
 | [],i,w,_,_=>rfl
 |v::vs,i,w,b,hw=>by
  obtain⟨d,e,b⟩:=DS b;have c:=hw 0 (by simp);simp only[fe]at c;have f:a.add i=adr a i:=(qU a i).symm;simp only[storeCells,f,Sem.run_bind,GI d e c,Result.andThen_ok];rw[ph vs (i+1) (iC w (hset w.heap (adr a i) v)) b fun j g=>?_]
  ·rfl
  ·have:=hw (j+1) (by simp only[az];omega)
   rw[show i+1+j=i+(j+1) by omega]
   exact this.hset v
theorem C7{a:Addr}(m:Nat):∀(vs:List Value) (i:Nat) (h:ac),ie h (adr a m) i vs=ie h a (m+i) vs
 | [],_,_=>rfl
 |v::vs,i,h=>by
  simp only[ie];rw[C7 m vs (i+1),wU];rfl
theorem Ds{t:TypeId}{a v:Value}{K:WK}{w:World}(c:Gp P t a v K w.heap):Wu P (Instr.storeAt t a v) K w:=by
 unfold Gp at c;split at c
 ·rename_i a
  cases hb:(bj v.cells.toList.length (bJ P t)&&bR v.cells.toList)with
  |false=>rw[hb]at c;exact c.elim
  |true=>
   rw[hb]at c;simp only[aS]at hb;have n:=aJ hb.1;obtain⟨c,o⟩:=mK c;have i:v.cells.size=bJ P t:=by simpa using n
   have m:(∀j,j<v.cells.toList.length→Wr w.heap (adr a (0+j)))→(Instr.storeAt t (.pointer (some a)) v).run P w=.ok () (iC w (ie w.heap a 0 v.cells.toList)):=by
    intro d;have:=ph (P:=P) v.cells.toList 0 w hb.2 d;simp[Instr.storeAt,Instr.sureAddr,storeVar,o,i,this]
   split at c
   ·rename_i u hu
    obtain⟨d,k⟩:=c;refine⟨_,m (fun j f=>?_),dV _ _,?_⟩
    ·rw[hu]at f;simp only[az,List.length_nil]at f
     obtain rfl:j=0:=by omega
     exact d
    ·rw[hu];exact k
   ·obtain⟨d,k⟩:=c
    refine⟨_,m (fun j f=>?_),dV _ _,k⟩
    rcases d with e|⟨b,g,d⟩
    ·rw[e]at f;cases f
    ·cases g;exact d j f
 ·exact c.elim
theorem im(z:Array Value)(n:Nat):(Builtin.zeroCells z n).toList=db n z.toList:=by
 have key:∀n,(List.range (n*z.size)).map (fun i=>z[i%z.size]!)=(eE n z.toList).flatten:=by
  intro n;induction n with
  |zero=>simp
  |succ n ih=>
   rw[Nat.succ_mul,List.range_add,List.map_append,ih,List.replicate_succ',List.flatten_append];congr 1
   simp only[hP,List.flatten_cons,List.flatten_nil,List.append_nil];apply List.ext_getElem
   ·simp
   ·intro i a b
    simp only[List.length_map,List.length_range]at a;simp[Nat.mod_eq_of_lt a,a,Nat.add_mod]
 simpa[Builtin.zeroCells,db]using key n
theorem dg{t e:TypeId}(h:r8 P t=some e):P.underlying t=some (.slice e):=by
 unfold r8 at h;split at h
 ·rename_i e' hu;simp only[bE.injEq]at h;subst h;exact hu
 ·cases h
theorem H2{z:Value}{n:Nat}:((Array.range (n*z.cells.size)).map (z.cells[· %z.cells.size]!))=(db n z.cells.toList).toArray:=by
 have:=im z.cells n;unfold Builtin.zeroCells at this;apply cG;rw[this]
theorem yk{t e:TypeId}{n:Nat}{ps:Array (Nat×Value)}{z cs:List Value}(p:r8 P t=some e)(q:nX P e=some z)(u:n*bJ P e≤16777216)(g:z.length=bJ P e)
  (o:y5 (fun i=>some (i*bJ P e,bJ P e)) (db n z) ps.toList=some cs)(w:World):
  (Instr.buildSlice t n ps).run P w=.ok (.slice (some (bc w.heap)) n n) (iC w (hnew w.heap cs e)):=by
 obtain⟨v,k,c⟩:=iB q;obtain⟨i,hi,s⟩:=oW k;have m:(sizeOf e).run P w=.ok (bJ P e) w:=by simp[sizeOf,cz hi,bJ,hi]
 have f:v.cells.size=bJ P e:=by rw[←g,←c];simp
 have j:=qh _ _ _ o;have a:((Array.range (n*bJ P e)).map (fun i=>(if n*bJ P e=0 then #[]else v.cells)[i%(if n*bJ P e=0 then #[]else v.cells).size]!))=(db n z).toArray:=by
  by_cases b:n*bJ P e=0
  ·have:(db n z).length=0:=by simp[db,g,b]
   rw[aD.1 this];simp[b]
  ·simp only[if_neg b]
   rw[←f,H2,c]
 have d:¬(n*bJ P e>2^24):=by omega
 simp only[Instr.buildSlice,Sem.run_bind,ar (dg p),Result.andThen_ok,m,if_neg d];by_cases b:n*bJ P e=0
 ·simp only[if_pos b]at a
  simp only[if_pos b,Sem.run_bind,Sem.run_pure,Result.andThen_ok,a,j,iM]
 ·simp only[if_neg b]at a
  simp only[if_neg b,Sem.run_bind,Sem.run_pure,Result.andThen_ok,dZ k,a,j,iM]
theorem Jb{h:ac}{a:Addr}{vs:List Value}(b:Row h a vs):∀j v,vs[j]? =some v→aF h (a.add j)=some v:=fun j v c=>by
 rw[←qU];exact b j v c
theorem tS{size n cap len:Nat}{b:Option Addr}{vs:List Value}{w:World}(d:SRow w.heap b (n*size) vs):(Builtin.firstCells size n (.slice b len cap)).run P w=.ok vs.toArray w:=by
 obtain⟨e,a⟩:=d;cases b with
 |none=>
  rcases a with rfl|⟨_,h,_⟩
  ·simp[Builtin.firstCells]
  ·cases h
 |some b=>
  refine run_firstCells_some w size n b len cap vs e fun j v c=>?_
  rcases a with rfl|⟨_,h,a⟩
  ·cases c
  ·cases h;exact Jb a j v c
theorem Au{a:Addr}{m:Nat}{xs:List Value}{w:World}(e:bR xs=true)(c:rk w.heap (some a) m xs):
  (storeCells (a.add m) xs).run P w=.ok () (iC w (ie w.heap a m xs)):=by
 rcases c with rfl|⟨b,f,c⟩
 ·rfl
 ·cases f
  have:=ph (P:=P) (a:=adr a m) xs 0 w e fun j d=>by rw[wU,aC];exact c j d
  rw[←qU,this,C7,fe]
set_option maxHeartbeats 1000000 in
theorem Bo{t e u ty:TypeId}{b:Option Addr}{sl f d:Nat}{xs:List Value}{x:Value}{K:WK}{w:World}(B:r8 P t=some e)(k:(∃s,P.underlying u=some (.slice s))∨P.underlying u=some .string)
  (g:∀w,(Builtin.lenOf x).run P w=.ok d w)(hx:∀w':World,w'.heap=w.heap→(Builtin.firstCells (bJ P e) d x).run P w'=.ok xs.toArray w')
  (hi:∃i,P.info? e=some i)
  (h:LN P e b sl f d xs K w.heap):Wv P (Builtin.append_ #[t,u] ty #[.slice b sl f,x]) K w:=by
 obtain⟨i,hi⟩:=hi;have j:bJ P e=i.size:=by simp[bJ,hi]
 have A:om P e=i.bytes:=by simp[om,hi]
 by_cases hc:sl+d≤f
 ·obtain⟨N,O,E⟩:=h.1 hc
  refine⟨_,_,?_,dV w (eJ w.heap b (sl*bJ P e) xs),E⟩;cases b with
  |none=>
   have c:=hx w rfl;rw[j]at c;rcases k with⟨s,hd⟩|hd<;>(simp[Builtin.append_,ar (dg B),ar hd,sizeOf,cz hi,g,hc,c];rfl)
  |some a=>
   have o:=Au (P:=P) O N;have c:=hx w rfl;rw[j]at o c;rcases k with⟨s,hd⟩|hd<;>(simp[Builtin.append_,ar (dg B),ar hd,sizeOf,cz hi,g,hc,c,o,eJ,j])
 ·obtain⟨old,z,I,L,F,y,E⟩:=h.2 (by omega)
  obtain⟨v,H,C⟩:=iB L;obtain⟨Q,m,J⟩:=oW H;rw[hi]at m;cases m;rw[A]at F y;have p:¬i.bytes=0:=by omega
  have n:¬(281474976710656<Builtin.nextslicecap (sl+d) f*i.bytes):=by omega
  have c:=hx w.drew rfl;have q:(Builtin.firstCells (bJ P e) sl (.slice b sl f)).run P w.drew=.ok old.toArray w.drew:=tS I;rw[j]at c q;have G:sl+d≤(Question.appendCap (sl+d) f e).cut (w.tape w.drawn (.appendCap (sl+d) f e)):=Nat.le_add_right _ _;refine⟨_,iC w.drew (hnew w.heap (old++xs++db ((Question.appendCap (sl+d) f e).cut (w.tape w.drawn (.appendCap (sl+d) f e))-(sl+d)) z) e),?_,⟨rfl,rfl,rfl⟩,E _ G⟩
  have D:(Builtin.zeroCells v.cells ((Question.appendCap (sl+d) f e).cut (w.tape w.drawn (.appendCap (sl+d) f e))-(sl+d)))=(db ((Question.appendCap (sl+d) f e).cut (w.tape w.drawn (.appendCap (sl+d) f e))-(sl+d)) z).toArray:=by
   apply cG;rw[im,C]
  rcases k with⟨s,hd⟩|hd<;>(simp[Builtin.append_,ar (dg B),ar hd,sizeOf,cz hi,g,hc,p,n,Question.forced,c,q,dZ H,iM,D,bc];rfl)
theorem AS{t:TypeId}{K:Prop}(h:K2 P t K):∃i,P.info? t=some i:=by
 unfold K2 at h;cases hi:P.info? t with
 |none=>rw[hi]at h;exact h.elim
 |some i=>exact⟨i,rfl⟩
theorem wH{t:TypeId}(h:bJ P t≠0):∃i,P.info? t=some i:=by
 cases hi:P.info? t with
 |none=>exact absurd (by simp[bJ,hi]) h
 |some i=>exact⟨i,rfl⟩
theorem zd{size n:Nat}{x:ByteArray}{w:World}:(Builtin.firstCells size n (.string x)).run P w=.ok ((dy x).take n).toArray w:=by
 simp only[Builtin.firstCells,Sem.run_pure];congr 1
 apply cG;simp[dy,mw,fq,←List.map_take]
theorem uu{t u ty:TypeId}{s x:Value}{K:WK}{w:World}(c:(∃e',P.underlying u=some (.slice e'))∨P.underlying u=some .string)(h:zP P t s x K w.heap):
  Wv P (Builtin.append_ #[t,u] ty #[s,x]) K w:=by
 unfold zP at h;split at h
 ·rename_i e b sl sc a xl xc ht
  have hi:=AS h;obtain⟨⟨xs,d,g⟩,k⟩:=mK h;exact Bo ht c (fun w=>rfl) (fun w' f=>tS (by rw[f];exact d)) hi g
 ·rename_i e b sl sc x ht
  cases hb:bj (bJ P e) 1 with
  |false=>rw[hb]at h;exact h.elim
  |true=>
   rw[hb]at h;have i:=aJ hb;have j:(dy x).length=x.size:=by simp[dy]
   refine Bo ht c (fun w=>rfl) (fun w' _=>?_) (wH (by omega)) h
   rw[zd,bC (by omega)]
 ·exact h.elim
theorem xE{n:Int}(b:0≤n)(a:n≤9223372036854775807):IntKind.i64.wrap n=n:=IntWalk.i64_in n ⟨by omega,a⟩
theorem HA{t e u ty:TypeId}{b:Option Addr}{sl g:Nat}{k0 k:IntKind}{l:Int}{z:List Value}{K:WK}{w:World}(x:r8 P t=some e)(y:P.underlying u=some (.int k0))
  (U:nX P e=some z)(S:z.length=bJ P e)(Z:0≤l)(R:l*om P e≤2^48)(Y:l≤9223372036854775807)(h3:((sl+l.toNat:Nat):Int)≤9223372036854775807)
  (h:LN P e b sl g l.toNat (db l.toNat z) K w.heap):Wv P (Builtin.append_ #[t,u] ty #[.slice b sl g,.int k l]) K w:=by
 obtain⟨v,F,D⟩:=iB U;obtain⟨i,hi,W⟩:=oW F;have j:bJ P e=i.size:=by simp[bJ,hi]
 have B:om P e=i.bytes:=by simp[om,hi]
 have A:IntKind.wrap .i64 l=l:=xE Z Y;have f:¬l<0:=by omega
 rw[B]at R;have c:¬(281474976710656:Int)<l*i.bytes:=by omega
 have d:∀w':World,(asInt (.int k l)).run P w'=.ok l w':=fun w'=>rfl
 have C:(Builtin.zeroCells v.cells l.toNat)=(db l.toNat z).toArray:=by apply cG;rw[im,D]
 have q:l.toNat*i.size=0→db l.toNat z= []:=fun L=>by
  have H:(db l.toNat z).length=l.toNat*i.size:=by rw[←j,←S];unfold db;simp
  exact aD.1 (by rw[H,L])
 by_cases hc:sl+l.toNat≤g
 ·obtain⟨N,R,I⟩:=h.1 hc
  refine⟨_,_,?_,dV w (eJ w.heap b (sl*bJ P e) (db l.toNat z)),I⟩;cases b with
  |none=>
   by_cases m:l.toNat*i.size=0
   ·simp[Builtin.append_,ar (dg x),ar y,sizeOf,cz hi,d,A,f,c,hc,m];rfl
   ·simp[Builtin.append_,ar (dg x),ar y,sizeOf,cz hi,d,A,f,c,hc,dZ F];rfl
  |some a=>
   have n:=Au (P:=P) R N;rw[j]at n;by_cases m:l.toNat*i.size=0
   ·rw[q m]at n
    simp[Builtin.append_,ar (dg x),ar y,sizeOf,cz hi,d,A,f,c,hc,n,eJ,j,m,q m]
   ·simp[Builtin.append_,ar (dg x),ar y,sizeOf,cz hi,d,A,f,c,hc,n,eJ,j,m,dZ F,C]
 ·obtain⟨old,z',V,G,O,J,I⟩:=h.2 (by omega)
  rw[U]at G;cases G;rw[B]at O J;have T:¬i.bytes=0:=by omega
  have o:¬(281474976710656<Builtin.nextslicecap (sl+l.toNat) g*i.bytes):=by omega
  have X:¬(9223372036854775807:Int)<((sl:Int)+(l.toNat:Int)):=by omega
  have p:¬(9223372036854775807:Int)<((sl:Int)+max l 0):=by omega
  have s:(Builtin.firstCells (bJ P e) sl (.slice b sl g)).run P w.drew=.ok old.toArray w.drew:=tS V;rw[j]at s;have Q:sl+l.toNat≤(Question.appendCap (sl+l.toNat) g e).cut (w.tape w.drawn (.appendCap (sl+l.toNat) g e)):=Nat.le_add_right _ _;refine⟨_,iC w.drew (hnew w.heap (old++db l.toNat z++db ((Question.appendCap (sl+l.toNat) g e).cut (w.tape w.drawn (.appendCap (sl+l.toNat) g e))-(sl+l.toNat)) z) e),?_,⟨rfl,rfl,rfl⟩,I _ Q⟩
  have E:(Builtin.zeroCells v.cells ((Question.appendCap (sl+l.toNat) g e).cut (w.tape w.drawn (.appendCap (sl+l.toNat) g e))-(sl+l.toNat)))=(db ((Question.appendCap (sl+l.toNat) g e).cut (w.tape w.drawn (.appendCap (sl+l.toNat) g e))-(sl+l.toNat)) z).toArray:=by
   apply cG;rw[im,D]
  by_cases m:l.toNat*i.size=0
  ·rw[q m]at I⊢
   simp[Builtin.append_,ar (dg x),ar y,sizeOf,cz hi,d,A,f,c,hc,p,o,Question.forced,s,dZ F,iM,E,bc,m];rfl
  ·simp[Builtin.append_,ar (dg x),ar y,sizeOf,cz hi,d,A,f,c,hc,p,o,Question.forced,s,dZ F,iM,E,bc,m,C];rfl
theorem Ai{t u ty:TypeId}{k0:IntKind}{s x:Value}{K:WK}{w:World}(c:P.underlying u=some (.int k0))(h:Aj P t s x K w.heap):
  Wv P (Builtin.append_ #[t,u] ty #[s,x]) K w:=by
 unfold Aj at h;split at h
 ·rename_i e b sl sc k l ht
  split at h
  ·rename_i z hz
   cases hb:bj z.length (bJ P e)with
   |false=>rw[hb]at h;exact h.elim
   |true=>
    rw[hb]at h;obtain⟨⟨g,a,i,f⟩,d⟩:=h;exact HA ht c hz (aJ hb) g a i f d
  ·exact h.elim
 ·exact h.elim
theorem j3:∀{a b:List Value},bR a=true→bR b=true→bR (a++b)=true
 | [],_,_,h=>h
 |v::a,b,h,k=>by
  simp only[bR,gn,aS]at h⊢;exact⟨h.1,j3 h.2 k⟩
theorem wz{z:List Value}(h:bR z=true):∀n,bR (db n z)=true
 |0=>rfl
 |n+1=>by
  have:db (n+1) z=z++db n z:=by simp[db,List.replicate_succ]
  rw[this];exact j3 h (wz h n)
theorem Dt{t ty:TypeId}{x:Value}{K:WK}{w:World}(h:Gq P t x K w.heap):Wv P (Builtin.clear_ #[t] ty #[x]) K w:=by
 unfold Gq at h;split at h
 ·rename_i e a n c ht
  split at h
  ·rename_i z hz
   obtain⟨v,j,d⟩:=iB hz;cases ho:bR z with
   |false=>rw[ho]at h;exact h.elim
   |true=>
    rw[ho]at h;obtain⟨g,i⟩:=h;refine⟨_,_,?_,dV w (eJ w.heap a 0 (db n z)),i⟩;cases a with
    |none=>simp[Builtin.clear_,ar (dg ht)];rfl
    |some a=>
     cases n with
     |zero=>simp[Builtin.clear_,ar (dg ht)];rfl
     |succ n=>
      have b:=Au (P:=P) (wz ho (n+1)) g;rw[←qU,Bq]at b;have f:(Builtin.zeroCells v.cells (n+1)).toList=db (n+1) z:=by rw[im,d]
      simp[Builtin.clear_,ar (dg ht),dZ j,f,b,eJ]
  ·exact h.elim
 ·exact h.elim
theorem wA:∀(xs:List Value) (n:Nat),bR xs=true→bR (xs.take n)=true
 | [],n,_=>by simp[bR]
 |x::xs,0,_=>by simp[bR]
 |x::xs,n+1,h=>by
  simp only[bR,aS,List.take_succ_cons]at h⊢;exact⟨h.1,wA xs n h.2⟩
theorem B5(x:ByteArray):bR (dy x)=true:=by
 have:∀l:List UInt8,bR (l.map fun b=>.int .u8 (b.toNat:Int))=true:=by
  intro l;induction l with
  |nil=>rfl
  |cons b l ih=>simp[bR,ih]
 exact this _
theorem EC{t u ty:TypeId}{d s:Value}{K:WK}{w:World}(h:Kj P t d s K w.heap):Wv P (Builtin.copy_ #[t,u] ty #[d,s]) K w:=by
 unfold Kj at h;split at h
 ·rename_i e b dl dc a sl sc ht
  obtain⟨⟨xs,o,k,p,n⟩,g⟩:=mK h;refine⟨_,_,?_,dV w (eJ w.heap b 0 xs),n⟩;have j:=tS (P:=P) (len:=sl) (cap:=sc) o;cases b with
  |none=>simp[Builtin.copy_,ar (dg ht),Builtin.lenOf,g,j,goInt];rfl
  |some c=>
   have f:=Au (P:=P) (m:=0) p k;simp only[Addr.add,if_pos]at f;simp[Builtin.copy_,ar (dg ht),Builtin.lenOf,g,j,goInt,f,eJ]
 ·rename_i e b dl dc x ht
  cases hb:bj (bJ P e) 1 with
  |false=>rw[hb]at h;exact h.elim
  |true=>
   rw[hb]at h;have p:=aJ hb;obtain⟨i,hi⟩:=wH (P:=P) (t:=e) (by omega);have g:(sizeOf e).run P w=.ok (bJ P e) w:=by simp[sizeOf,cz hi,bJ,hi]
   obtain⟨k,n⟩:=h;have v:(dy x).length=x.size:=by simp[dy]
   have q:(dy x).take (dt x.size dl)=(dy x).take dl:=by
    by_cases hx:x.size≤dl
    ·rw[show dt x.size dl=x.size from Nat.min_eq_left hx,bC (by omega),bC (by omega)]
    ·rw[show dt x.size dl=dl from Nat.min_eq_right (by omega)]
   have j:(Builtin.firstCells (bJ P e) (dt x.size dl) (.string x)).run P w=.ok ((dy x).take dl).toArray w:=by
    rw[zd,q]
   refine⟨_,_,?_,dV w (eJ w.heap b 0 ((dy x).take dl)),n⟩;cases b with
   |none=>simp[Builtin.copy_,ar (dg ht),Builtin.lenOf,g,j,goInt];rfl
   |some c=>
    have f:=Au (P:=P) (m:=0) (wA _ dl (B5 x)) k;simp only[Addr.add,if_pos]at f;simp[Builtin.copy_,ar (dg ht),Builtin.lenOf,g,j,goInt,f,eJ]
 ·exact h.elim
theorem Il(k v:Value)(a:Nat):∀(es:List MapEntry),(match es.findIdx? (fun e=>eT k e.key)with
  |some i=>(es.modify i (fun e=>{e with key:=k,val:=v}),a)
  |none=>(es++ [{key:=k,val:=v,born:=a}],a+1))=DL k v a es
 | []=>rfl
 |e::es=>by
  have b:=Il k v a es;simp only[DL,List.findIdx?_cons];cases hk:eT k e.key with
  |true=>simp[List.modify]
  |false=>
   simp only[cf,if_false];rw[←b];cases hf:es.findIdx? (fun e=>eT k e.key)with
   |none=>simp
   |some i=>simp[List.modify]
theorem sS{d:TypeDesc}{c:CK}(hd:l9 d c)(x:c.den):∀(es:List MapEntry) (i:Nat),keysOf c es→
  Instr.findNow d (c.enc x) es i=some (match es.findIdx? (fun e=>eT (c.enc x) e.key)with
   |some j=>(es[j]?).map fun e=>(i+j,e.val)
   |none=>none)
 | [],i,_=>rfl
 |e::es,i,h=>by
  obtain⟨y,k⟩:=h e (by simp);have b:=yS hd x y;rw[←k]at b;have g:=sS hd x es (i+1) fun f a=>h f (by simp[a])
  simp only[Instr.findNow,List.findIdx?_cons,b];cases hb:eT (c.enc x) e.key with
  |true=>simp
  |false=>
   simp only[cf,if_false];rw[g];cases hf:es.findIdx? (fun e=>eT (c.enc x) e.key)with
   |none=>simp
   |some j=>simp[Nat.add_assoc,Nat.add_comm 1 j]
theorem r9{a b:ByteArray}(h:(a==b)=true):a=b:=by
 cases a with|mk a=>cases b with|mk b=>
 have h:(a==b)=true:=h;rw[eq_of_beq h]
theorem tA(a:ByteArray):(a==a)=true:=by
 cases a with|mk a=>
 exact beq_self_eq_true a
theorem DE{d:TypeDesc}{c:CK}(hd:l9 d c)(x y:c.den)(h:eT (c.enc x) (c.enc y)=true):Instr.sameBits 10000 (c.enc y) (c.enc x)=true:=by
 rcases hd with⟨i,rfl,rfl⟩|⟨rfl,rfl⟩|⟨rfl,rfl⟩
 ·have h:x=y:=eq_of_beq (α:=Int) h
  subst h;have:∀n:Int,(i==i&&n==n)=true:=fun n=>by simp
  exact this x
 ·have h:x=y:=r9 h
  subst h;exact tA x
 ·have h:x=y:=eq_of_beq (α:=Bool) h
  subst h;exact beq_self_eq_true (α:=Bool) x
theorem rL{w:World}{r:Nat}{es:Array MapEntry}{a:Nat}{o:Obj}(h:w.heap[r]? =some (.map es a)):(setObj r o).run P w=.ok () (iC w (w.heap.setIfInBounds r o)):=by
 simp only[setObj,Sem.run,h];rfl
theorem G6{t k e:TypeId}{d:TypeDesc}{c:CK}(A:P.underlying t=some (.map k e))(u:P.underlying k=some d)(hd:l9 d c){r:Nat}{x:c.den}{v:Value}{w:World}(hm:wZ c w.heap r):
  (Instr.mapUpdate t (.map (some r)) (c.enc x) v).run P w=.ok () (iC w (ns w.heap r (c.enc x) v)):=by
 obtain⟨es,a,j,f⟩:=hm;obtain⟨q,z,b,C⟩:=rO (P:=P) hd u x f w;rw[sS hd x es.toList 0 f]at b;have g:=Il (c.enc x) v a es.toList;have n:ns w.heap r (c.enc x) v=w.heap.setIfInBounds r (.map (DL (c.enc x) v a es.toList).1.toArray (DL (c.enc x) v a es.toList).2):=by
  simp only[ns,j]
 rw[n,←g];simp only[Instr.mapUpdate,Sem.run_bind,ar A,Result.andThen_ok,jI j,kS hd u,z];cases hf:es.toList.findIdx? (fun e=>eT (c.enc x) e.key)with
 |none=>
  rw[hf]at b;simp only[bE.injEq]at b;subst b;simp only[rL j];congr 4
  apply cG;simp
 |some i=>
  rw[hf]at b;simp only[bE.injEq]at b;obtain⟨hi,p,_⟩:=List.findIdx?_eq_some_iff_getElem.1 hf;have s:es.toList[i]? =some es.toList[i]:=ag hi;rw[s]at b;simp only[je,aC]at b;subst b;have o:es[i]? =some es.toList[i]:=by rw[←aR];exact s
  obtain⟨y,B⟩:=f es.toList[i] (List.getElem_mem hi);have m:Instr.sameBits 10000 (es.toList[i]).key (c.enc x)=true:=by
   rw[B]at p⊢;exact DE hd x y p
  simp only[o,je,Option.getD_some,Instr.keyThatStays,m,if_true,Sem.run_bind,Sem.run_pure,Result.andThen_ok,rL j];congr 4
  apply cG;simp
theorem ut{t:TypeId}{m k v:Value}{K:WK}{w:World}(h:zO P t m k v K w.heap):Wu P (Instr.mapUpdate t m k v) K w:=by
 unfold zO at h;split at h
 ·rename_i c e m hc
  obtain⟨g,d,a,b,hd⟩:=sL hc;obtain⟨i,rfl,r,rfl,hm,f⟩:=CK.dec_sound h;exact⟨_,G6 a b hd hm,dV _ _,f⟩
 ·exact h.elim
theorem FI(k:Value):∀(es:List MapEntry),(match es.findIdx? (fun e=>eT k e.key)with
  |some i=>es.eraseIdx i
  |none=>es)=Bb k es
 | []=>rfl
 |e::es=>by
  have a:=FI k es;simp only[Bb,List.findIdx?_cons];cases hk:eT k e.key with
  |true=>simp
  |false=>
   simp only[cf,if_false];rw[←a];cases hf:es.findIdx? (fun e=>eT k e.key)<;>simp
theorem Fl{t k e ty:TypeId}{ts:Array TypeId}{d:TypeDesc}{c:CK}(u:ts[0]? =some t) (v:P.underlying t=some (.map k e)) (p:P.underlying k=some d) (hd:l9 d c) {r:Nat} {x:c.den} {w:World} (hm:wZ c w.heap r):
  (Builtin.delete_ ts ty #[.map (some r),c.enc x]).run P w=.ok (.tuple #[]) (iC w (AM w.heap r (c.enc x))):=by
 obtain⟨es,g,m,j⟩:=hm;obtain⟨q,s,b,A⟩:=rO (P:=P) hd p x j w;rw[sS hd x es.toList 0 j]at b;have f:=FI (c.enc x) es.toList;have o:AM w.heap r (c.enc x)=w.heap.setIfInBounds r (.map (Bb (c.enc x) es.toList).toArray g):=by
  simp only[AM,m]
 rw[o,←f];simp only[Builtin.delete_,u,List.getElem?_toArray,List.getElem?_cons_zero,List.getElem?_cons_succ,Sem.run_bind,ar v,Result.andThen_ok,jI m,kS hd p,s];cases hf:es.toList.findIdx? (fun e=>eT (c.enc x) e.key)with
 |none=>
  rw[hf]at b;simp only[bE.injEq]at b;subst b;simp[rL m]
 |some i=>
  rw[hf]at b;simp only[bE.injEq]at b;obtain⟨hi,z,_⟩:=List.findIdx?_eq_some_iff_getElem.1 hf;have y:es.toList[i]? =some es.toList[i]:=ag hi;rw[y]at b;simp only[je,aC]at b;subst b;have n:i<es.size:=by simpa using hi
  have a:es.eraseIdxIfInBounds i=(es.toList.eraseIdx i).toArray:=by
   apply cG;simp[Array.eraseIdxIfInBounds,n]
  simp[rL m,a]
theorem Ag{t ty:TypeId}{ts:Array TypeId}{m k:Value}{K:WK}{w:World}(b:ts[0]? =some t) (h:Ah P t m k K w.heap):Wv P (Builtin.delete_ ts ty #[m,k]) K w:=by
 unfold Ah at h;split at h
 ·rename_i c e m hc
  obtain⟨i,d,f,g,hd⟩:=sL hc;obtain⟨j,rfl,h⟩:=CK.dec_sound h;rcases h with⟨rfl,a⟩|⟨r,rfl,hm,a⟩
  ·refine⟨_,w,?_,Tame.refl w,a⟩
   simp[Builtin.delete_,b,ar f,kS hd g]
  ·exact⟨_,_,Fl b f g hd hm,dV _ _,a⟩
 ·exact h.elim
theorem Jd{t k e:TypeId}(b:P.underlying t=some (.map k e)){m:Option Nat}{a:Nat}{w:World}(hm:m=none∧a=0∨∃r es,m=some r∧w.heap[r]? =some (.map es a)):
  (Instr.range t (.map m)).run P w=.ok (.pointer (some (bc w.heap))) (iC w (w.heap.push (.mapIter m a #[] a))):=by
 rcases hm with⟨rfl,rfl⟩|⟨r,es,rfl,c⟩
 ·simp only[Instr.range,Sem.run_bind,ar b,Result.andThen_ok,Sem.run_pure,AB,bc]
 ·simp only[Instr.range,Sem.run_bind,ar b,Result.andThen_ok,Sem.run_pure,jI c,AB,bc]
theorem sD{w:World}{i:Nat}{m:Option Nat}{a:Nat}{b:Array Nat}{last:Nat}(h:w.heap[i]? =some (.mapIter m a b last)):(getObj i).run P w=.ok (.mapIter m a b last) w:=by
 simp only[getObj,Sem.run,h]
theorem EX{w:World}{i:Nat}{m:Option Nat}{a:Nat}{b:Array Nat}{last:Nat}{o:Obj}(h:w.heap[i]? =some (.mapIter m a b last)):(setObj i o).run P w=.ok () (iC w (w.heap.setIfInBounds i o)):=by
 simp only[setObj,Sem.run,h];rfl
theorem Bj(n:Nat)(a:0<n)(w:World):∃k w',k<n∧(choose (.mapNext n)).run P w=.ok k w'∧Tame w w'∧w'.heap=w.heap:=by
 unfold choose;simp only[Sem.run];by_cases h:(Question.mapNext n).forced=true
 ·exact⟨0,w,a,by rw[if_pos h],Tame.refl w,rfl⟩
 ·refine⟨(Question.mapNext n).cut (w.tape w.drawn (.mapNext n)),{w with drawn:=w.drawn+1},Nat.mod_lt _ a,by rw[if_neg h],⟨rfl,rfl,rfl⟩,rfl⟩
theorem EB{I:Value}{t:TypeId}{K:WK}{w:World}(h:Ki I K w.heap):Wv P (Instr.next I false t) K w:=by
 unfold Ki at h;split at h
 ·rename_i a
  obtain⟨N,m,i,g,last,hi,h⟩:=h;obtain⟨b,off,L⟩:=a;simp only at N hi h;subst N;rcases h with⟨rfl,O⟩|⟨r,es,v,rfl,H,C,B,G⟩
  ·exact⟨_,w,by simp only[Instr.next,Sem.run_bind,sD hi,Result.andThen_ok,Sem.run_pure],Tame.refl w,O⟩
  ·have s:(!g.isEmpty&& !es.isEmpty&&es.all (fun e=>decide (e.born≥last)))=false:=by
    rcases C with h|h|h<;>simp[h]
   obtain⟨left,j⟩:∃left,left=es.filter fun e=> !g.contains e.born:=⟨_,rfl⟩
   obtain⟨old,p⟩:∃old,old=left.filter (·.born<i):=⟨_,rfl⟩
   obtain⟨new,hnew⟩:∃new,new=left.filter (·.born≥i):=⟨_,rfl⟩
   obtain⟨d,f⟩:∃d:Array (Option MapEntry),d=(if old.isEmpty then #[none]else #[])++(old++new).map some:=⟨_,rfl⟩
   have A:0<d.size:=by
    rw[f];by_cases y:old.isEmpty=true
    ·simp[y];omega
    ·have:old.size≠0:=by simpa using y
     simp[y];omega
   obtain⟨k,D,Q,u,J,hh⟩:=Bj (P:=P) d.size A w;obtain⟨c,hc⟩:∃c,d[k]? =some c:=⟨d[k],Array.getElem?_eq_getElem Q⟩;have E:D.heap[b]? =some (.mapIter (some r) i g last):=by rw[hh];exact hi
   have n:(!g.isEmpty&& !es.isEmpty&&es.all fun x=>decide (x.born≥last))=false:=s
   cases c with
   |none=>
    refine⟨.tuple #[.bool false],D,?_,J,?_⟩
    ·simp only[Instr.next,Sem.run_bind,sD hi,Result.andThen_ok,Sem.run_pure,jI H,n,cf,if_false,←j,←p,←hnew,←f,u,hc]
    ·rw[hh]
     have q:old.isEmpty=true:=by
      have hm:none∈d:=Array.mem_of_getElem? hc;rw[f]at hm;by_cases y:old.isEmpty=true
      ·exact y
      ·simp[y]at hm
     refine B fun e R F=>?_
     cases hs:g.contains e.born with
     |true=>rfl
     |false=>
      have o:e∈old:=by
       rw[p,j];simp only[m0];exact⟨⟨by simpa using R,by rw[hs];rfl⟩,by simpa using F⟩
      rw[Array.isEmpty_iff]at q;rw[q]at o;simp at o
   |some e=>
    have o:e∈es∧g.contains e.born=false:=by
     have hm:some e∈d:=Array.mem_of_getElem? hc;have z:e∈left:=by
      rw[f]at hm;rw[Array.mem_append]at hm;rcases hm with hm|hm
      ·split at hm<;>simp at hm
      ·simp only[Array.mem_map,bE.injEq,exists_eq_right,Array.mem_append]at hm
       rcases hm with hm|hm
       ·rw[p]at hm;exact(m0.1 hm).1
       ·rw[hnew]at hm;exact(m0.1 hm).1
     rw[j]at z;have:=m0.1 z;exact⟨this.1,by simpa using this.2⟩
    refine⟨.tuple #[.bool true,e.key,e.val],iC D (D.heap.setIfInBounds b (.mapIter (some r) i (g.push e.born) v)),?_,J.trans (dV _ _),?_⟩
    ·simp only[Instr.next,Sem.run_bind,sD hi,Result.andThen_ok,Sem.run_pure,jI H,n,cf,if_false,←j,←p,←hnew,←f,u,hc,EX E]
    ·rw[hh]
     exact G e (by simpa using o.1) o.2
 ·exact h.elim
theorem B6{t e:TypeId}{z:List Value}{k k':IntKind}{l c:Int}{w:World}(u:r8 P t=some e)(C:nX P e=some z)(f:z.length=bJ P e)(E:0≤l)(F:l≤c)(D:c≤9223372036854775807)(B:om P e*c≤2^48):
  (Instr.makeSlice t (.int k l) (.int k' c)).run P w=.ok (.slice (some (bc w.heap)) l.toNat c.toNat) (iC w (hnew w.heap (db c.toNat z) e)):=by
 obtain⟨v,x,b⟩:=iB C;obtain⟨i,hi,A⟩:=oW x;have d:bJ P e=i.size:=by simp[bJ,hi]
 have m:om P e=i.bytes:=by simp[om,hi]
 have n:v.cells.size=i.size:=by rw[←d,←f,←b];simp
 have y:=xE E (by omega);have hc:=xE (show 0≤c by omega) D
 rw[m]at B;have c1:¬(c<0):=by omega
 have p:¬(281474976710656<(i.bytes:Int)*c):=by omega
 have q:¬(l<0):=by omega
 have s:¬(c<l):=by omega
 by_cases a:c.toNat*i.size=0
 ·have o:(db c.toNat z).length=0:=by simp[db,f,d,a]
  rw[aD.1 o];simp[Instr.makeSlice,ar (dg u),asInt,asIntOf,cz hi,y,hc,c1,p,q,s,sizeOf,a,iM]
 ·have g:((Array.range (c.toNat*i.size)).map (fun j=>v.cells[j%v.cells.size]!))=(db c.toNat z).toArray:=by
   rw[←n,H2,b]
  have key:(newRow e ((Array.range (c.toNat*i.size)).map (fun j=>v.cells[j%v.cells.size]!))).run P w=.ok (bc w.heap) (iC w (hnew w.heap (db c.toNat z) e)):=by
   rw[g,iM]
  simp[Instr.makeSlice,ar (dg u),asInt,asIntOf,cz hi,y,hc,c1,p,q,s,sizeOf,a,dZ x];rw[key];rfl
theorem Agree.args{N:Nat}{r:cg}{a:Act}(h:Agree N r a){os:Array Operand}{vs:List Value}(b:lq r os.toList=some vs):os.map a.eval=vs.toArray:=by
 rw[←j1 h b];apply cG;simp
theorem HC.out{f:FuncId}{args:List Value}{ks:List Kind}{K:WK}{w:World}(h:HC P f args ks (fun x h'=>K (zz ks (kE ks x)) h') w.heap):FU P (callFunc f args.toArray) K w:=by
 rcases h.run w rfl with⟨c,d⟩|⟨v,w',c,a,x,rfl,b⟩
 ·refine .inr (.inr (.inl ⟨f,args.toArray,c,d.mono ?_⟩))
  rintro e w' ⟨a,x,rfl,b⟩;exact⟨a,_,rfl,b⟩
 ·exact .inl ⟨_,w',c,a,b⟩
theorem JH{b a e:TypeId}{s:ByteArray}{w:World}(g:P.underlying b=some .string)(hd:P.underlying a=some (.slice e))(j:P.underlying e=some (.int .u8)):
  ∃c,s.size≤c∧(convert b a (.string s)).run P w=.ok (.slice (some (bc w.heap)) s.size c) (iC w.drew (w.heap.push (.cells (dy s++eE (c-s.size) (Value.int .u8 0)).toArray e (c,c+1)))):=by
 have d:s.size≤grownCap w s.size 0 e:=Nat.le_add_right _ _;refine⟨_,d,?_⟩;rw[Go.Lib.run_convert_string_bytes w b a e s g hd j];have hc:(Go.Lib.bytesCells w e s).size=grownCap w s.size 0 e:=by
  unfold Go.Lib.bytesCells;rw[Array.size_append,Array.size_map,Array.size_replicate,show s.data.size=s.size from rfl]
  omega
 have f:(dy s++eE (grownCap w s.size 0 e-s.size) (Value.int .u8 0)).toArray=Go.Lib.bytesCells w e s:=by
  unfold Go.Lib.bytesCells dy;apply cG;simp
 rw[f];unfold Go.Lib.bytesWorld World.freeze;rw[if_neg (by omega),hc];unfold World.alloc World.drew iC;congr 1
 congr 1
 apply Array.ext (by simp);intro i m k;rw[Array.getElem_modify];simp only[Array.getElem_push];split
 ·rename_i e
  subst e;simp
 ·rename_i e
  have hi:i<w.heap.size:=by simp at k;omega
  rw[dif_pos hi,dif_pos hi]
theorem xG{o:Oper}{r:cg}{K:WK}{w:World}{N:Nat}{a:Act}(D:Agree N r a)(j:BS P o r K w.heap):FU P (execOp a.eval o) K w:=by
 have q:∀{x:Operand} {v:Value},cU r x=some v→a.eval x=v:=fun h=>iG D h
 obtain⟨U,Y,type,pos,E,I⟩:=o;cases Y with
 |alloc t=>
  simp only[BS]at j;split at j
  ·rename_i z hz
   obtain⟨v,H,T⟩:=iB hz;have C:(Instr.alloc t true (.tuple #[])).run P w=.ok (.pointer (some (bc w.heap))) (iC w (hnew w.heap z t)):=by
    simp[Instr.alloc,dZ H,newVar,iM,T]
   exact Wv.out ⟨_,_,C,dV _ _,j⟩
  ·exact j.elim
 |box t x=>
  simp only[BS]at j;split at j
  ·rename_i v H
   have C:(Instr.box t v).run P w=.ok (.pointer (some (bc w.heap))) (iC w (hnew w.heap v.cells.toList t)):=by
    simp[Instr.box,newVar,iM]
   simp only[execOp,q H];exact Wv.out ⟨_,_,C,dV _ _,j⟩
  ·exact j.elim
 |build t ps=>
  simp only[BS]at j;split at j
  ·rename_i vs p
   split at j
   ·rename_i cs hcs
    have R:(ps.map fun x=>(x.1,a.eval x.2))=vs.toArray:=by
     rw[←lU D p];apply cG;simp
    have C:=wQ (ps:=vs.toArray) (by simpa using hcs) w;simp only[execOp];rw[show(ps.map fun(i,x)=>(i,a.eval x))=vs.toArray from R]
    exact Wv.out ⟨_,w,C,Tame.refl w,j⟩
   ·exact j.elim
  ·exact j.elim
 |buildSlice t n ps=>
  simp only[BS]at j;split at j
  ·rename_i e vs F p
   split at j
   ·rename_i z hz
    cases hb:(ue (n*bJ P e) 16777216&&bj z.length (bJ P e))with
    |false=>rw[hb]at j;exact j.elim
    |true=>
     rw[hb]at j;simp only[aS]at hb;simp only[cond_true]at j;split at j
     ·rename_i cs hcs
      have R:(ps.map fun x=>(x.1,a.eval x.2))=vs.toArray:=by
       rw[←lU D p];apply cG;simp
      have C:=yk (ps:=vs.toArray) F hz (gN hb.1) (aJ hb.2) (by simpa using hcs) w;simp only[execOp];rw[show(ps.map fun(i,x)=>(i,a.eval x))=vs.toArray from R]
      exact Wv.out ⟨_,_,C,dV _ _,j⟩
     ·exact j.elim
   ·exact j.elim
  ·exact j.elim
 |store t x y=>
  simp only[BS]at j;split at j
  ·rename_i b v hb H
   simp only[execOp,q hb,q H];exact Wu.out (Ds j)
  ·exact j.elim
 |mapUpdate t m k x=>
  simp only[BS]at j;split at j
  ·rename_i mv kv xv hm B hx
   simp only[execOp,q hm,q B,q hx];exact Wu.out (ut j)
  ·exact j.elim
 |insert t m k x=>
  simp only[BS]at j;split at j
  ·rename_i mv kv xv hm B hx
   simp only[execOp,q hm,q B,q hx];exact Wu.out (ut j)
  ·exact j.elim
 |makeMap t n=>
  simp only[BS]at j;cases n with
  |none=>exact Wv.out ⟨_,iC w (w.heap.push (.map #[] 0)),by simp[Instr.makeMap];rfl,dV _ _,j⟩
  |some n=>
   simp only at j;split at j
   ·rename_i k i hn F
    exact Wv.out ⟨_,iC w (w.heap.push (.map #[] 0)),by simp[Instr.makeMap,q hn,ar F,asInt,asIntOf];rfl,dV _ _,j⟩
   ·exact j.elim
 |makeSlice t l c=>
  simp only[BS]at j;split at j
  ·rename_i e k l' k' c' F V hc
   split at j
   ·rename_i z hz
    cases hb:bj z.length (bJ P e)with
    |false=>rw[hb]at j;exact j.elim
    |true=>
     rw[hb]at j;obtain⟨⟨h0,X,W,Z⟩,j⟩:=j;simp only[execOp,q V,q hc];exact Wv.out ⟨_,_,B6 F hz (aJ hb) h0 X W Z,dV _ _,j⟩
   ·exact j.elim
  ·exact j.elim
 |convert s d x=>
  simp only[BS]at j;split at j
  ·rename_i e v Q hd hx
   cases hu:He P e with
   |false=>rw[hu]at j;exact j.elim
   |true=>
    rw[hu]at j;obtain⟨c,hc,L⟩:=JH (w:=w) (s:=v) Q hd (AR hu);simp only[execOp,q hx];exact Wv.out ⟨_,_,L,⟨rfl,rfl,rfl⟩,j c hc⟩
  ·exact j.elim
 |range t x=>
  simp only[BS]at j;split at j
  ·rename_i k e m hu hx
   obtain⟨S,hm,j⟩:=j;simp only[execOp,q hx];exact Wv.out ⟨_,_,Jd hu hm,dV _ _,j⟩
  ·exact j.elim
 |next it isS=>
  cases isS with
  |true=>simp only[BS]at j
  |false=>
   simp only[BS]at j;split at j
   ·rename_i v H
    simp only[execOp,q H];exact Wv.out (EB j)
   ·exact j.elim
 |call c=>
  simp only[BS]at j;have O:∀{b:Builtin} {vs:List Value},c.callee=.builtin b→lq r c.args.toList=some vs→∃cs:Array Bool,∀w,(execOp a.eval ⟨U,.call c,type,pos,E,I⟩).run P w=
    (builtin b c.argTypes type cs vs.toArray).run P w:=by
   intro b vs hc p;refine⟨c.args.map fun| .const _=>true|_=>false,fun w=>?_⟩
   simp[execOp,resolve,hc,D.args p,invoke];rfl
  have J:∀{s s':Sem Next},(∀w,s.run P w=s'.run P w)→FU P s' K w→FU P s K w:=by
   intro s s' C h;unfold FU at h⊢;simp only[C];exact h
  split at j
  ·rename_i s x hc p
   split at j
   ·rename_i t u hat
    obtain⟨cs,G⟩:=O hc p;refine J G ?_;have A:c.argTypes= #[t,u]:=by apply cG;rw[hat]
    simp only[builtin,A];split at j
    ·rename_i e' hu;exact Wv.out (uu (.inl ⟨e',hu⟩) j)
    ·rename_i hu;exact Wv.out (uu (.inr hu) j)
    ·rename_i k0 hu;exact Wv.out (Ai hu j)
    ·exact j.elim
   ·exact j.elim
  ·rename_i x hc p
   split at j
   ·rename_i t hat
    obtain⟨cs,G⟩:=O hc p;refine J G ?_;have A:c.argTypes= #[t]:=by apply cG;rw[hat]
    simp only[builtin,A];exact Wv.out (Dt j)
   ·exact j.elim
  ·rename_i s x hc p
   split at j
   ·rename_i t u hat
    obtain⟨cs,G⟩:=O hc p;refine J G ?_;have A:c.argTypes= #[t,u]:=by apply cG;rw[hat]
    simp only[builtin,A];exact Wv.out (EC j)
   ·exact j.elim
  ·rename_i m k hc p
   split at j
   ·rename_i t u hat
    obtain⟨cs,G⟩:=O hc p;refine J G ?_;simp only[builtin];exact Wv.out (Ag (by rw[←aR,hat];rfl) j)
   ·exact j.elim
  ·rename_i f args hc p
   unfold Nd at j;split at j
   ·exact j.elim
   ·rename_i ks hks
    split at j
    ·rename_i f
     refine J (s':=callFunc f args.toArray) (fun w=>?_) j.out
     simp[execOp,resolve,hc,D.args p,Act.eval,Deferred.ofValue,invoke]
    ·rename_i f hf
     split at j
     ·rename_i fv hfv
      rcases j.run with⟨g,first,cap,rfl,hh⟩|⟨l,rfl,hh⟩
      rotate_left
      ·obtain⟨fn,tmps,assign,body,X,W⟩:=hh.run w rfl
       refine .inr (.inr (.inr ⟨l,fn,tmps,assign,body,?_,fun c cs=>?_⟩))
       ·rw[←X]
        simp[execOp,resolve,hc,D.args p,q hfv,Deferred.ofValue,invoke]
       ·obtain⟨b,w',F,B,Q⟩:=W c cs
        refine⟨b,w',F,?_,Q⟩;obtain⟨t,e,B⟩:=pG B;have V:ks.length=1:=by rw[←ql ks t,←e];rfl
        match ks,V,t,e,B with
        | [k],_,t,e,B=>rw[←e]at B;exact B
      refine J (s':=callFunc g (first.toList++args++cap.toList).toArray) (fun w=>?_) hh.out
      have e:first++args.toArray++cap=(first.toList++args++cap.toList).toArray:=by apply cG;simp
      rw[←e];simp[execOp,resolve,hc,D.args p,q hfv,Deferred.ofValue,invoke]
     ·exact j.elim
  ·exact j.elim
 |_=>simp only[BS]at j
end Go.Lift
