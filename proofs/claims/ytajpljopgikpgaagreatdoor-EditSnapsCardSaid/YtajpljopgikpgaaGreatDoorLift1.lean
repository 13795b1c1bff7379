/- A part of the proof that the named laws of this program answer true, whatever the input. -/
import Derived.Test.YtajpljopgikpgaaGreatDoorLift0
import Derived.Laws.Append
import Derived.Laws.Cover3
import Derived.Laws.StructEq
import Derived.Laws.BytesString
import Derived.Lib.ConvBytes
open Array renaming ext'→cj,getElem?_toList→aR,mem_of_getElem?→mA,mem_filter→mS
open Bool renaming and_eq_true→aV,false_eq_true→eh
open ByteArray renaming data_extract→mp
open List renaming extract_eq_take_drop→ff,map_cons→eI,take_of_length_le→bh,length_cons→aO,cons_append→dt,replicate→gi,length_eq_zero_iff→bC,getElem?_eq_getElem→ag
open Nat renaming beq→aY,add_assoc→qt,ble→tN,eq_of_beq_eq_true→aI,le_of_ble_eq_true→gp,add_zero→dL,zero_add→aD,min→cP
open Option renaming some→bi,isSome_iff_exists→cN,map_some→fQ
open Prod renaming mk→p8
open UInt8 renaming ofNat→eX
namespace Go.Lift
open Go
def Lg(S:Option (ad→Prop))(h:ad):Prop:=match S with|none=>True|some f=>f h
def Yv(P:Program)(s:Sem Value)(K:RK)(h:ad):Prop:=∃v S,K v S∧Lg S h∧∀w:World,Lg S w.heap→s.run P w=.ok v w
theorem Yv.of_pure{P:Program}{s:Sem Value}{K:RK}{h:ad}{v:Value}(b:K v none)(a:∀w:World,s.run P w=.ok v w):Yv P s K h:=
 ⟨v,none,b,trivial,fun w _=>a w⟩
variable {P:Program}
theorem sR{t:TypeId}{f:Nat}{u:TypeId}{off:Nat}(h:sS P t f=some (u,off)):
  ∃fs g,P.underlying t=some (.struct fs)∧fs[f]? =some g∧g.type=u∧g.offset=off:=by
 unfold sS at h;split at h
 ·rename_i fs hu
  split at h
  ·rename_i g hg
   simp only[bi.injEq,p8.injEq]at h;exact⟨fs,g,hu,by simpa using hg,h.1,h.2⟩
  ·cases h
 ·cases h
theorem uL{t:TypeId}(h:aY (bA P t) 0=false)(w:World):(sizeOf t).run P w=.ok (bA P t) w:=by
 unfold bA at h⊢;cases hi:P.info? t with
 |none=>rw[hi]at h;cases h
 |some i=>simp[sizeOf,bZ hi]
theorem yW{t:TypeId}{f:Nat}{u:TypeId}{off:Nat}{a:Addr}{K:RK}{h:ad}(i:sS P t f=some (u,off))
  (b:bif aY (bA P u) 0 then False else K (.pointer (some (adr a off))) none):Yv P (Instr.fieldAt t (.pointer (some a)) f) K h:=by
 obtain⟨k,g,d,j,rfl,rfl⟩:=sR i;cases hz:aY (bA P g.type) 0 with
 |true=>rw[hz]at b;exact b.elim
 |false=>
  rw[hz]at b;refine .of_pure b fun w=>?_
  have c:bA P g.type≠0:=fun e=>by rw[e]at hz;cases hz
  simp only[Instr.fieldAt,Sem.run_bind,ao d,Result.andThen_ok,j,Instr.sureAddr,Sem.run_pure,fieldPlace,uL hz];simp[c,qo]
theorem rH{t:TypeId}{i:TypeInfo}(_:P.info? t=some i)(a:∃d,P.underlying t=some d)(w:World):(isAgg t).run P w=.ok (rI P t) w:=by
 obtain⟨d,hd⟩:=a;simp only[isAgg,Sem.run_bind,ao hd,Result.andThen_ok];unfold rI;rw[hd];cases d<;>rfl
theorem vP{c:BinOp}{k k':IntKind}{a b:Int}{K:RK}{h:ad}(f:c=.shl∨c=.shr)(hv:FF c k a b K):Yv P (Op.shift c k a k' b) K h:=by
 rcases f with rfl|rfl
 ·obtain⟨e,d⟩:=hv
  refine .of_pure d fun w=>?_
  simp[Op.shift,Int.not_lt.2 e]
 ·obtain⟨e,d⟩:=hv
  refine .of_pure d fun w=>?_
  simp[Op.shift,Int.not_lt.2 e]
theorem Gn{c:BinOp}{k:IntKind}{a b:Int}{K:RK}{h:ad}(hv:M3 c k a b K)(f:c≠ .shl∧c≠ .shr):Yv P (binOp c 0 (.int k a) (.int k b)) K h:=by
 cases c<;>simp only[M3]at hv
 case quo=>obtain⟨e,d⟩:=hv;exact .of_pure d fun w=>by simp[binOp,Op.intDiv,e]
 case rem=>obtain⟨e,d⟩:=hv;exact .of_pure d fun w=>by simp[binOp,Op.intDiv,e]
 all_goals exact .of_pure hv fun w=>by simp[binOp,Op.intArith,Op.intBits,Op.intCmp]
theorem AU(c:BinOp)(t:TypeId)(k k':IntKind)(a b:Int):binOp c t (.int k a) (.int k' b)=binOp c 0 (.int k a) (.int k' b):=by
 cases c<;>rfl
theorem FC{c:BinOp}{t:TypeId}{a b:ByteArray}{K:RK}{h:ad}(hv:ML c a b K):Yv P (binOp c t (.string a) (.string b)) K h:=by
 cases c<;>simp only[ML]at hv
 case add=>
  obtain⟨e,d⟩:=hv;refine .of_pure d fun w=>?_
  have:¬(((a.size+b.size:Nat):Int)>IntKind.i64.max):=by
   have:IntKind.i64.max=9223372036854775807:=by decide
   omega
  simp only[binOp,Op.stringOp,if_neg this,Sem.run_pure]
 all_goals exact .of_pure hv fun w=>by simp[binOp,Op.stringOp]
theorem nn{t:TypeId}{x y:Value}{b:Bool}{w:World}(h:∀d,(Op.equalIn (d+1) t x y).run P w=.ok b w):(Op.equal t x y).run P w=.ok b w:=h 9999
theorem AF{t:TypeId}{e:TypeId}(b:P.underlying t=some (.pointer e))(a:Option Addr)(w:World):(Op.equal t (.pointer a) (.pointer none)).run P w=.ok a.isNone w:=by
 refine nn fun d=>?_
 simp only[Op.equalIn,Sem.run_bind,ao b,Result.andThen_ok];cases a<;>rfl
theorem GA(e:BinOp)(t:TypeId)(x y:Operand)(a b:Value)(h:∀c d,a=.agg c→b=.agg d→False)(hi:a=.nilIface→b=.nilIface→False)(w:World):
  (eqGuard e t x y a b).run P w=.ok () w:=by
 cases e;case eql=>cases a<;>cases b<;>first|rfl|exact(hi rfl rfl).elim|exact(h _ _ rfl rfl).elim
 case neq=>cases a<;>cases b<;>first|rfl|exact(hi rfl rfl).elim|exact(h _ _ rfl rfl).elim
 all_goals rfl
theorem I4(t:TypeId)(x y:Value)(hx:∀k a,x≠ .int k a)(c:∀s,x≠ .string s)(d:∀k a,x≠ .float k a)(hc:∀k a b,x≠ .complex k a b):binOp .eql t x y=(do pure (.bool (←Op.equal t x y))):=by
 cases x<;>first|rfl|exact absurd rfl (hx _ _)|exact absurd rfl (c _)|exact absurd rfl (d _ _)|exact absurd rfl (hc _ _ _)
theorem I0(t:TypeId)(x y:Value)(hx:∀k a,x≠ .int k a)(c:∀s,x≠ .string s)(d:∀k a,x≠ .float k a)(hc:∀k a b,x≠ .complex k a b):binOp .neq t x y=(do pure (.bool (!(←Op.equal t x y)))):=by
 cases x<;>first|rfl|exact absurd rfl (hx _ _)|exact absurd rfl (c _)|exact absurd rfl (d _ _)|exact absurd rfl (hc _ _ _)
theorem np{t:TypeId}{neg:Bool}{x y:Value}{b:Bool}{w:World}(c:(Op.equal t x y).run P w=.ok b w)
  (hx:∀k a,x≠ .int k a)(d:∀s,x≠ .string s)(e:∀k a,x≠ .float k a)(hc:∀k a b,x≠ .complex k a b):
  (binOp (bif neg then .neq else .eql) t x y).run P w=.ok (.bool (bif neg then !b else b)) w:=by
 cases neg
 ·simp only[cond_false,I4 t x y hx d e hc,Sem.run_bind,c,Result.andThen_ok,Sem.run_pure]
 ·simp only[cond_true,I0 t x y hx d e hc,Sem.run_bind,c,Result.andThen_ok,Sem.run_pure]
theorem Al{t:TypeId}{neg:Bool}{x y:Value}{K:RK}{h:ad}(hv:LN P t neg x y K):
  (∀c d,x=.agg c→y=.agg d→False)∧(x=.nilIface→y=.nilIface→False)∧Yv P (binOp (bif neg then .neq else .eql) t x y) K h:=by
 unfold LN at hv;split at hv
 ·rename_i e a hu
  refine⟨nofun,nofun,.of_pure hv fun w=>?_⟩
  exact np (AF hu a w) nofun nofun nofun nofun
 ·rename_i k e a hu
  refine⟨nofun,nofun,.of_pure hv fun w=>?_⟩
  refine np ?_ nofun nofun nofun nofun;refine nn fun d=>?_
  simp only[Op.equalIn,Sem.run_bind,ao hu,Result.andThen_ok];cases a<;>rfl
 ·rename_i e a _ _ _ _ hu
  refine⟨nofun,nofun,.of_pure hv fun w=>?_⟩
  refine np ?_ nofun nofun nofun nofun;refine nn fun d=>?_
  simp only[Op.equalIn,Sem.run_bind,ao hu,Result.andThen_ok];cases a<;>rfl
 ·exact hv.elim
theorem sD{w:World}{a b:Addr}(d:du w.heap a)(f:du w.heap b):(sameAddr a b).run P w=.ok (a==b) w:=by
 obtain⟨g,o,d,t⟩:=d;obtain⟨cb,eb,f,sb⟩:=f;by_cases c:a.block=b.block
 ·simp[sameAddr,c]
 ·have i:(a==b)=false:=by
   rw[beq_eq_false_iff_ne];intro e;exact c (by rw[e])
  have s1:w.shape? a.block=some (o,g.size):=by simp[World.shape?,d]
  have s2:w.shape? b.block=some (eb,cb.size):=by simp[World.shape?,f]
  have q:∀n,w.frozen? ({block:=a.block,off:=n}:Addr)=false:=fun n=>by simp[World.frozen?,d]
  have j:∀n,w.frozen? ({block:=b.block,off:=n}:Addr)=false:=fun n=>by simp[World.frozen?,f]
  have s:w.frozen? a=false:=by simp[World.frozen?,d]
  have p:w.frozen? b=false:=by simp[World.frozen?,f]
  obtain⟨m,hm⟩:∃m,g.size=m+1:=⟨g.size-1,by omega⟩
  obtain⟨n,k⟩:∃n,cb.size=n+1:=⟨cb.size-1,by omega⟩
  simp[sameAddr,c,noView,viewAt,mayBeOne,stringish,s1,s2,q,j,s,p,hm,k,i]
theorem xE{t:TypeId}{neg:Bool}{x y:Value}{K:RK}{h:ad}(hv:Mq P t neg x y K h):
  (∀c d,x=.agg c→y=.agg d→False)∧(x=.nilIface→y=.nilIface→False)∧Yv P (binOp (bif neg then .neq else .eql) t x y) K h:=by
 unfold Mq at hv;split at hv
 ·rename_i a b hu
  refine⟨nofun,nofun,.of_pure hv fun w=>?_⟩
  refine np ?_ nofun nofun nofun nofun;refine nn fun d=>?_
  simp only[Op.equalIn,Sem.run_bind,ao hu,Result.andThen_ok,Sem.run_pure]
 ·rename_i e a b hu
  obtain⟨hz,j,i⟩:=hv;refine⟨nofun,nofun,_,_,i,j,fun w n=>?_⟩
  refine np ?_ nofun nofun nofun nofun;have f:aY (bA P e) 0=false:=by
   cases hb:aY (bA P e) 0 with
   |false=>rfl
   |true=>rw[hb]at hz;exact hz.elim
  have g:bA P e≠0:=fun e=>by rw[e]at f;cases f
  refine nn fun d=>?_
  simp only[Op.equalIn,Sem.run_bind,ao hu,Result.andThen_ok];cases a with
  |none=>cases b<;>rfl
  |some a=>cases b with
   |none=>rfl
   |some b=>
    obtain⟨k,m⟩:=n a b rfl rfl;simp only[Sem.run_bind,uL f,Result.andThen_ok,ne_eq,g,not_false_eq_true,if_true,sD k m];rfl
 ·exact hv.elim
theorem F1{e:BinOp}{t:TypeId}{x y:Value}{K:RK}{h:ad}(hv:MR P e t x y K h):
  (∀c d,x=.agg c→y=.agg d→False)∧(x=.nilIface→y=.nilIface→False)∧Yv P (binOp e t x y) K h:=by
 unfold MR at hv;split at hv
 ·rename_i k a k' b
  refine⟨nofun,nofun,?_⟩;rw[AU];split at hv
  ·exact vP (k':=k') (.inl rfl) hv
  ·exact vP (k':=k') (.inr rfl) hv
  ·rename_i h1 h2
   cases hk:Dl k' k with
   |false=>rw[hk]at hv;exact hv.elim
   |true=>rw[hk]at hv;have:=wc hk;subst this;exact Gn hv ⟨h1,h2⟩
 ·exact⟨nofun,nofun,FC hv⟩
 ·split at hv
  ·exact xE (neg:=false) hv
  ·exact xE (neg:=true) hv
  ·exact hv.elim
theorem EC{u:TypeId}{cs:List Value}{off:Nat}(a:((P.underlying u).isSome&&(P.info? u).isSome)=true){w:World}(b:rI P u=true):
  (part u cs.toArray off).run P w=.ok (.agg ((cs.drop off).take (bA P u)).toArray) w:=by
 simp only[aV,cN]at a;obtain⟨a,i,hi⟩:=a;have c:(sizeOf u).run P w=.ok (bA P u) w:=by simp[sizeOf,bZ hi,bA,hi]
 simp only[part,Sem.run_bind,rH hi a,Result.andThen_ok,b,if_true,c,Sem.run_pure];congr 2
 apply cj;simp[ff]
theorem Ci{u:TypeId}{cs:List Value}{off:Nat}(a:((P.underlying u).isSome&&(P.info? u).isSome)=true){w:World}(c:rI P u=false){v:Value}(hc:cs[off]? =some v):
  (part u cs.toArray off).run P w=.ok v w:=by
 simp only[aV,cN]at a;obtain⟨a,i,hi⟩:=a;have b:cs.toArray[off]? =some v:=by simpa using hc
 simp only[part,Sem.run_bind,rH hi a,Result.andThen_ok,c,eh,if_false,b,Sem.run_pure]
theorem uR{h:ad}:∀{l m:List (Option Addr×Option Addr)},oF h (l++m)→oF h l∧oF h m
 | [],_,h=>⟨trivial,h⟩
 |(_,_)::_,_,h=>⟨⟨h.1,(uR h.2).1⟩,(uR h.2).2⟩
theorem EX{t:TypeId}{x y:Value}{b:Bool}{l:List (Option Addr×Option Addr)}(f:Kt P t x y=some (b,l)){w:World}(i:oF w.heap l)(d:Nat):
  (Op.equalIn (d+1) t x y).run P w=.ok b w:=by
 unfold Kt at f;split at f
 ·rename_i k0 k a k' c hu
  cases hk:Dl k' k with
  |false=>rw[hk]at f;cases f
  |true=>
   rw[hk]at f;have:=wc hk;subst this;cases f;exact run_equalIn_int w d t _ _ _ _ hu
 ·rename_i a c hu
  cases f;exact run_equalIn_bool w d t _ _ hu
 ·rename_i a c hu
  cases f;exact run_equalIn_string w d t _ _ hu
 ·rename_i e a c hu
  cases hz:aY (bA P e) 0 with
  |true=>rw[hz]at f;cases f
  |false=>
   rw[hz]at f;cases f;have g:bA P e≠0:=fun e=>by rw[e]at hz;cases hz
   simp only[Op.equalIn,Sem.run_bind,ao hu,Result.andThen_ok];cases a with
   |none=>cases c<;>rfl
   |some a=>cases c with
    |none=>rfl
    |some c=>
     obtain⟨j,m⟩:=i.1 a c rfl rfl;simp only[Sem.run_bind,uL hz,Result.andThen_ok,ne_eq,g,not_false_eq_true,if_true,sD j m];rfl
 ·cases f
theorem AG{rec:TypeId→List Value→List Value→Option (Bool×List (Option Addr×Option Addr))}{d:Nat}{xs ys:List Value}{w:World}
  (e:∀t us vs b l,rec t us vs=some (b,l)→oF w.heap l→(Op.equalIn (d+1) t (.agg us.toArray) (.agg vs.toArray)).run P w=.ok b w):
  ∀(fs:List Field) (b:Bool) (l:List (Option Addr×Option Addr)),L1 P rec xs ys fs=some (b,l)→oF w.heap l→(Op.eqFields (d+1) xs.toArray ys.toArray fs).run P w=.ok b w
 | [],b,l,he,_=>by cases he;rfl
 |f::fs,b,l,he,hp=>by
  unfold L1 at he;split at he
  ·cases he
  ·rename_i hn
   cases hi:((P.underlying f.type).isSome&&(P.info? f.type).isSome)with
   |false=>rw[hi]at he;cases he
   |true=>
    rw[hi]at he;simp only[cond_true]at he;split at he
    ·rename_i b1 l1 c m e1 e2
     cases he;obtain⟨p1,g⟩:=uR hp;have a:=AG e fs c m e2 g;have k:∃u v,(part f.type xs.toArray f.offset).run P w=.ok u w∧(part f.type ys.toArray f.offset).run P w=.ok v w∧(Op.equalIn (d+1) f.type u v).run P w=.ok b1 w:=by
      cases ha:rI P f.type with
      |true=>
       rw[ha]at e1;exact⟨_,_,EC hi ha,EC hi ha,e _ _ _ _ _ e1 p1⟩
      |false=>
       rw[ha]at e1;simp only[cond_false]at e1;split at e1
       ·rename_i x y hx hy
        exact⟨x,y,Ci hi ha hx,Ci hi ha hy,EX e1 p1 d⟩
       ·cases e1
     obtain⟨u,v,n,j,i⟩:=k;simp only[Op.eqFields,ne_eq,hn,not_false_eq_true,if_true,Sem.run_bind,n,j,i,Result.andThen_ok];cases b1
     ·rfl
     ·exact a
    ·cases he
theorem vd{w:World}:∀(m:Nat) (t:TypeId) (xs ys:List Value) (b:Bool) (l:List (Option Addr×Option Addr)),Ku P m t xs ys=some (b,l)→oF w.heap l→
  ∀d,(Op.equalIn (d+m+1) t (.agg xs.toArray) (.agg ys.toArray)).run P w=.ok b w
 |0,_,_,_,_,_,he,_,_=>by cases he
 |m+1,t,xs,ys,b,l,he,hp,d=>by
  unfold Ku at he;split at he
  ·rename_i fs hu
   cases hs:P.stoodInHeld t with
   |true=>rw[hs]at he;cases he
   |false=>
    rw[hs]at he;have a:P.fieldsOf t=fs:=by simp[Program.fieldsOf,hu]
    rw[run_equalIn_struct w _ t _ _ (by rw[a];exact hu) hs,a];exact AG (d:=d+m) (fun t c vs b l e f=>vd m t c vs b l e f d) fs.toList b l he hp
  ·cases he
theorem Cz{neg b:Bool}{K:RK}{h:ad}{l:List (Option Addr×Option Addr)}(a:OG neg b K h l):∃S,K (.bool (bif neg then !b else b)) S∧Lg S h∧∀h',Lg S h'→oF h' l:=by
 cases l with
 |nil=>exact⟨none,a,trivial,fun _ _=>trivial⟩
 |cons p l=>exact⟨_,a.2,a.1,fun _ h=>h⟩
theorem F3{g:BinOp}{t:TypeId}{xs ys:Array Value}{x y:Operand}{K:RK}{h:ad}(a:MS P g t xs.toList ys.toList K h):
  ∃v S,K v S∧Lg S h∧∀w:World,Lg S w.heap→(do eqGuard g t x y (.agg xs) (.agg ys);binOp g t (.agg xs) (.agg ys):Sem Value).run P w=.ok v w:=by
 unfold MS at a;cases hg:P.eqGuardType P.depth t with
 |true=>rw[hg]at a;exact a.elim
 |false=>
  rw[hg]at a;simp only[cond_false]at a;split at a
  ·split at a
   ·rename_i b l he
    obtain⟨S,c,d,f⟩:=Cz a;refine⟨_,S,c,d,fun w e=>?_⟩
    have:=vd 10 t _ _ b l he (f _ e) 9989;simp only[Array.toArray_toList]at this;simp only[Sem.run_bind,run_eqGuard_agg w _ t x y _ _ hg,Result.andThen_ok,run_eql_struct,this];rfl
   ·exact a.elim
  ·split at a
   ·rename_i b l he
    obtain⟨S,c,d,f⟩:=Cz a;refine⟨_,S,c,d,fun w e=>?_⟩
    have:=vd 10 t _ _ b l he (f _ e) 9989;simp only[Array.toArray_toList]at this;simp only[Sem.run_bind,run_eqGuard_agg w _ t x y _ _ hg,Result.andThen_ok,run_neq_struct,this];rfl
   ·exact a.elim
  ·exact a.elim
theorem Il{a:UnOp}{x:Value}{K:RK}{h:ad}(hv:Om a x K):Yv P (Op.unary a x) K h:=by
 unfold Om at hv;split at hv
 ·exact .of_pure hv fun w=>rfl
 ·exact .of_pure hv fun w=>rfl
 ·exact .of_pure hv fun w=>rfl
 ·exact hv.elim
theorem AR:∀(l:List UInt8) (s:ByteArray),(l.map fun b=>((b.toNat:Nat):Int)).foldl (fun r n=>r.push (eX n.toNat)) s=⟨s.data++l.toArray⟩
 | [],s=>by simp
 |b::l,s=>by
  simp only[eI,List.foldl_cons];rw[AR l];congr 1
  have:eX ((b.toNat:Nat):Int).toNat=b:=by simp
  rw[this];apply cj;simp[ByteArray.push]
theorem Av{e:TypeId}(h:Gm P e=true):P.underlying e=some (.int .u8):=by
 unfold Gm at h;split at h
 ·assumption
 ·cases h
theorem Em{w:World}{a:Addr}{vs:List Value}(b:Row w.heap a vs):(loadCells a vs.length).run P w=.ok vs.toArray w:=by
 have:=run_firstCells_some (P:=P) w 1 vs.length a 0 0 vs (by simp) fun j v hv=>by rw[←qo];exact b j v hv
 simpa[Builtin.firstCells]using this
theorem Et{g f:TypeId}{x:Value}{K:RK}{h:ad}(hv:JS P g f x K h):Yv P (convert g f x) K h:=by
 unfold JS at hv;split at hv
 ·rename_i k k' k'' n h1 h2
  exact .of_pure hv fun w=>by simp only[convert,Sem.run_bind,ao h1,ao h2,Result.andThen_ok];rfl
 ·rename_i s h1 h2
  exact .of_pure hv fun w=>by simp only[convert,Sem.run_bind,ao h1,ao h2,Result.andThen_ok];rfl
 ·rename_i e a n c h1 h2
  cases hu:Gm P e with
  |false=>rw[hu]at hv;exact hv.elim
  |true=>
   rw[hu]at hv;obtain⟨s,y,q⟩:=hv;refine⟨_,_,q,y,fun w m=>?_⟩
   rw[run_convert_bytes_string w g f e a n c h1 (Av hu) h2];obtain⟨o,m⟩:=m;rcases m with p|⟨b,rfl,t⟩
   ·have j:s=ByteArray.empty:=by
     have:s.data.toList= []:=by simpa[cT]using p
     cases s with
     |mk d=>simp at this;subst this;rfl
    cases a with
    |none=>rw[j];rfl
    |some b=>
     have u:n=0:=by rw[←o,p];rfl
     subst u;have:=Em (P:=P) (w:=w) (a:=b) (vs:= []) fun i v hv=>by simp at hv
     rw[run_bytesToString w b 0 c [] (by simpa using this),j];rfl
   ·have:=Em (P:=P) t
    rw[o]at this;rw[run_bytesToString w b n c (s.data.toList.map fun b=>((b.toNat:Nat):Int)) (by rw[this,List.map_map];rfl),AR]
    cases s;simp[ByteArray.empty,ByteArray.emptyWithCapacity];try rfl
 ·exact hv.elim
theorem Ga{u:TypeId}{cs:Array Value}{off:Nat}{K:RK}{h:ad}(b:∃d,P.underlying u=some d)(hi:∃i,P.info? u=some i)
  (hv:bif rI P u then K (.agg ((cs.toList.drop off).take (bA P u)).toArray) none else(match cs.toList[off]? with|some v=>K v none|none=>False)):Yv P (part u cs off) K h:=by
 obtain⟨i,hi⟩:=hi;cases ha:rI P u with
 |true=>
  rw[ha]at hv;refine .of_pure hv fun w=>?_
  have c:(sizeOf u).run P w=.ok (bA P u) w:=by simp[sizeOf,bZ hi,bA,hi]
  simp only[part,Sem.run_bind,rH hi b,Result.andThen_ok,ha,if_true,c,Sem.run_pure];congr 2
  apply cj;simp[ff]
 |false=>
  rw[ha]at hv;simp only[cond_false]at hv;cases hc:cs.toList[off]? with
  |none=>rw[hc]at hv;exact hv.elim
  |some v=>
   rw[hc]at hv;refine .of_pure hv fun w=>?_
   have a:cs[off]? =some v:=by simpa using hc
   simp only[part,Sem.run_bind,rH hi b,Result.andThen_ok,ha,eh,if_false,a,Sem.run_pure]
def si(P:Program)(v:Option Value)(d y n:Nat):Prop:=
 match v with
 |some x=>∀c w,(Instr.sliceBound x y c).run P w=.ok n w
 |none=>n=d
theorem jY{v:Option Value}{d y:Nat}{K:Nat→Prop}(hv:K4 v d y K):∃n,K n∧si P v d y n:=by
 unfold K4 at hv;split at hv
 ·exact⟨d,hv,rfl⟩
 ·rename_i k i
  obtain⟨⟨e,a⟩,b⟩:=hv;refine⟨i.toNat,b,fun c w=>?_⟩
  simp[Instr.sliceBound,asIntOf,e,a]
 ·exact hv.elim
theorem mD{c:Bool}{len cap n l:Nat}{lo hi:Option Value}(b:si P hi len cap n)(a:si P lo 0 n l)(w:World):
  (Instr.sliceBounds c len cap lo hi none).run P w=.ok (l,n,cap) w:=by
 cases hi with
 |none=>
  cases lo with
  |none=>simp only[si]at b a;subst b;subst a;simp[Instr.sliceBounds]
  |some lo=>simp only[si]at b a;subst b;simp[Instr.sliceBounds,a]
 |some hi=>
  cases lo with
  |none=>simp only[si]at b a;subst a;simp[Instr.sliceBounds,b]
  |some lo=>simp only[si]at b a;simp[Instr.sliceBounds,b,a]
theorem xm{c:Bool}{len cap n l m:Nat}{lo:Option Value}{hi d:Value}(hm:si P (some d) 0 cap m)(b:si P (some hi) 0 m n)(a:si P lo 0 n l)(w:World):
  (Instr.sliceBounds c len cap lo (some hi) (some d)).run P w=.ok (l,n,m) w:=by
 cases lo with
 |none=>simp only[si]at hm b a;subst a;simp[Instr.sliceBounds,hm,b]
 |some lo=>simp only[si]at hm b a;simp[Instr.sliceBounds,hm,b,a]
theorem uI(a:Option Addr)(l m size:Nat):(if m=l then a else a.map (·.add (l*size)))=aK a l m size:=by
 unfold aK;split
 ·rfl
 ·congr 1;funext x;rw[qo]
theorem mG{t:TypeId}{K:Prop}(h:Kb P t K):K∧∀w,(sizeOf t).run P w=.ok (bA P t) w:=by
 unfold Kb at h;cases hi:P.info? t with
 |none=>rw[hi]at h;exact h.elim
 |some i=>rw[hi]at h;exact⟨h,fun w=>by simp[sizeOf,bZ hi,bA,hi]⟩
theorem C5{t:TypeId}{x:Value}{f:Nat}{K:RK}{h:ad}(hv:FZ P t x f K):Yv P (Instr.field t x f) K h:=by
 unfold FZ at hv;split at hv
 ·rename_i u off cs hf
  obtain⟨j,g,c,e,rfl,rfl⟩:=sR hf;cases hb:((P.underlying g.type).isSome&&(P.info? g.type).isSome)with
  |false=>rw[hb]at hv;exact hv.elim
  |true=>
   rw[hb]at hv;simp only[aV,cN]at hb;obtain⟨v,S,a,i,b⟩:=Ga (cs:=cs) (off:=g.offset) (h:=h) hb.1 hb.2 hv;refine⟨v,S,a,i,fun w d=>?_⟩
   have:=b w d;simp only[Instr.field,Sem.run_bind,ao c,Result.andThen_ok,e,asAgg,Sem.run_pure,this]
 ·exact hv.elim
theorem xr{t:TypeId}{x i:Value}{K:RK}{h:ad}(hv:uP P t x i K):Yv P (Instr.indexAt t x i) K h:=by
 unfold uP at hv;split at hv
 ·rename_i n e a k i hu
  obtain⟨⟨⟨f,c⟩,d⟩,hz⟩:=mG hv;refine .of_pure d fun w=>?_
  simp[Instr.indexAt,asIntOf,ao hu,Instr.sureAddr,f,c,hz,qo]
 ·rename_i e b len cap k i hu
  obtain⟨⟨⟨f,c⟩,a,rfl,d⟩,hz⟩:=mG hv;refine .of_pure d fun w=>?_
  simp[Instr.indexAt,asIntOf,ao hu,f,c,hz,qo]
 ·exact hv.elim
theorem C4{t:TypeId}{x i:Value}{K:RK}{h:ad}(hv:FY P t x i K):Yv P (Instr.index t x i) K h:=by
 unfold FY at hv;split at hv
 ·rename_i s k i hu
  obtain⟨b,d,c,a⟩:=hv;refine .of_pure a fun w=>?_
  simp[Instr.index,asIntOf,ao hu,d,c]
 ·exact hv.elim
theorem C2{t:TypeId}{x:Value}{lo hi d:Option Value}{K:RK}{h:ad}(hv:FV P t x lo hi d K):Yv P (Instr.sliceAt t x lo hi d) K h:=by
 unfold FV at hv;split at hv
 ·rename_i s hu
  cases d with
  |some _=>exact hv.elim
  |none=>
   obtain⟨n,hv,c⟩:=jY (P:=P) hv;obtain⟨l,hv,b⟩:=jY (P:=P) hv;refine .of_pure hv fun w=>?_
   simp[Instr.sliceAt,Instr.slice,ao hu,mD c b]
 ·rename_i e a len cap hu
  obtain⟨hv,hz⟩:=mG hv;cases d with
  |none=>
   obtain⟨n,hv,c⟩:=jY (P:=P) hv;obtain⟨l,hv,b⟩:=jY (P:=P) hv;refine .of_pure hv fun w=>?_
   simp[Instr.sliceAt,Instr.slice,ao hu,mD c b,hz,uI]
  |some m=>
   cases hi with
   |none=>exact hv.elim
   |some hi=>
    obtain⟨g,hv,hm⟩:=jY (P:=P) hv;obtain⟨n,hv,c⟩:=jY (P:=P) hv;obtain⟨l,hv,b⟩:=jY (P:=P) hv;refine .of_pure hv fun w=>?_
    simp[Instr.sliceAt,Instr.slice,ao hu,xm hm c b,hz,uI]
 ·rename_i n e a hu
  obtain⟨hv,hz⟩:=mG hv;cases d with
  |some _=>exact hv.elim
  |none=>
   obtain⟨m,hv,c⟩:=jY (P:=P) hv;obtain⟨l,hv,b⟩:=jY (P:=P) hv;refine .of_pure hv fun w=>?_
   have f:(some (if n=l then a else a.add (l*bA P e)))=aK (some a) l n (bA P e):=by
    rw[←uI];split<;>rfl
   simp[Instr.sliceAt,ao hu,Instr.sureAddr,mD c b,hz,f]
 ·exact hv.elim
def l8(d:TypeDesc)(c:CK):Prop:=(∃i,d=.int i∧c=.int i)∨(d=.string∧c=.str)∨(d=.bool∧c=.bool)
theorem sL{t:TypeId}{c:CK}{e:TypeId}(h:EM P t=some (c,e)):∃k d,P.underlying t=some (.map k e)∧P.underlying k=some d∧l8 d c:=by
 unfold EM at h;split at h
 ·rename_i k e' hu
  split at h
  ·rename_i i hk
   simp only[bi.injEq,p8.injEq]at h;obtain⟨rfl,rfl⟩:=h;exact⟨k,_,hu,hk,.inl ⟨i,rfl,rfl⟩⟩
  ·rename_i hk
   simp only[bi.injEq,p8.injEq]at h;obtain⟨rfl,rfl⟩:=h;exact⟨k,_,hu,hk,.inr (.inl ⟨rfl,rfl⟩)⟩
  ·rename_i hk
   simp only[bi.injEq,p8.injEq]at h;obtain⟨rfl,rfl⟩:=h;exact⟨k,_,hu,hk,.inr (.inr ⟨rfl,rfl⟩)⟩
  ·cases h
 ·cases h
theorem yo{d:TypeDesc}{c:CK}(hd:l8 d c)(x y:c.den):Instr.sameNow d (c.enc x) (c.enc y)=some (fI (c.enc x) (c.enc y)):=by
 rcases hd with⟨i,rfl,rfl⟩|⟨rfl,rfl⟩|⟨rfl,rfl⟩
 ·simp[Instr.sameNow,CK.enc,fI]
 ·simp[Instr.sameNow,CK.enc,fI]
 ·simp[Instr.sameNow,CK.enc,fI]
theorem yA{d:TypeDesc}{c:CK}(hd:l8 d c)(x:c.den):∀(es:List MapEntry) (i:Nat),Au c es→
  ∃r,Instr.findNow d (c.enc x) es i=some r∧r.map (·.2)=EW (c.enc x) es
 | [],i,_=>⟨none,rfl,rfl⟩
 |e::es,i,h=>by
  obtain⟨y,f⟩:=h e (by simp);have b:=yo hd x y;rw[←f]at b;simp only[Instr.findNow,EW];cases hb:fI (c.enc x) e.key with
  |true=>rw[b,hb];exact⟨some (i,e.val),rfl,rfl⟩
  |false=>rw[b,hb];exact yA hd x es (i+1) fun e' a=>h e' (by simp[a])
theorem E6{a:Bool}{k:TypeId}{d:TypeDesc}{c:CK}(hd:l8 d c)(b:P.underlying k=some d)(v:Value)(n:Nat)(w:World):(Instr.checkKey a (n+1) k v).run P w=.ok () w:=by
 unfold Instr.checkKey;simp only[Sem.run_bind,ao b,Result.andThen_ok];rcases hd with⟨i,rfl,rfl⟩|⟨rfl,rfl⟩|⟨rfl,rfl⟩<;>rfl
theorem ry{k:TypeId}{d:TypeDesc}{c:CK}(hd:l8 d c)(b:P.underlying k=some d)(x:c.den){es:List MapEntry}(h:Au c es)(w:World):
  ∃r,(Instr.findKey k (c.enc x) es).run P w=.ok r w∧Instr.findNow d (c.enc x) es 0=some r∧r.map (·.2)=EW (c.enc x) es:=by
 obtain⟨r,a,hm⟩:=yA hd x es 0 h;refine⟨r,?_,a,hm⟩;simp only[Instr.findKey,Sem.run_bind,ao b,Result.andThen_ok,a,Sem.run_pure]
theorem jw{w:World}{r:Nat}{es:Array MapEntry}{a:Nat}(h:w.heap[r]? =some (.map es a)):(getObj r).run P w=.ok (.map es a) w:=by
 simp only[getObj,Sem.run,h]
theorem kL{a:Bool}{k:TypeId}{d:TypeDesc}{c:CK}(hd:l8 d c)(b:P.underlying k=some d)(v:Value)(w:World):(Instr.checkKey a 10000 k v).run P w=.ok () w:=
 E6 hd b v 9999 w
theorem Gf{t:TypeId}{c:CK}{e k:TypeId}{d:TypeDesc}(p:P.underlying t=some (.map k e))(f:P.underlying k=some d)(hd:l8 d c){m:Option Nat}{x:c.den}{z v:Value}{b g:Bool}{w:World}
  (hz:(zeroValue e).run P w=.ok z w)(hm:GQ c z w.heap m (c.enc x) v b):
  (Instr.lookup t (.map m) (c.enc x) g).run P w=.ok (bif g then .tuple #[v,.bool b]else v) w:=by
 cases m with
 |none=>
  obtain⟨rfl,rfl⟩:=hm;simp only[Instr.lookup,Sem.run_bind,ao p,Result.andThen_ok,Sem.run_pure,kL hd f];obtain⟨r,j,o,a⟩:=ry (P:=P) hd f x (es:= []) (fun _ h=>by cases h) w
  simp only[Instr.findNow,bi.injEq]at o;subst o;simp[j,hz]
 |some r=>
  obtain⟨es,i,q,n,hv⟩:=hm;simp only[Instr.lookup,Sem.run_bind,ao p,Result.andThen_ok,jw q,Sem.run_pure,kL hd f];obtain⟨r,j,o,a⟩:=ry (P:=P) hd f x n w;simp only[j,Result.andThen_ok];cases r with
  |none=>
   simp only[Option.map_none]at a;rw[←a]at hv;obtain⟨rfl,rfl⟩:=hv;simp[hz]
  |some r=>
   simp only[fQ]at a;rw[←a]at hv;obtain⟨rfl,rfl⟩:=hv;cases g<;>rfl
theorem dE{e:TypeId}{z:Value}(h:ua P e=some z)(w:World):(zeroValue e).run P w=.ok z w:=by
 unfold ua at h;cases hi:P.info? e with
 |none=>rw[hi]at h;cases h
 |some i=>rw[hi]at h;simp only at h;simp[zeroValue,bZ hi,h]
theorem Bm{t:TypeId}{x k:Value}{a:Bool}{K:RK}{h:ad}(hv:C3 P t x k a K h):Yv P (Instr.lookup t x k a) K h:=by
 unfold C3 at hv;split at hv
 ·rename_i c e m hc
  obtain⟨o,d,i,f,hd⟩:=sL hc;obtain⟨n,rfl,hv⟩:=CK.dec_sound hv;split at hv
  ·rename_i ek z hek hz
   obtain⟨y,b,hm,g⟩:=hv;exact⟨_,_,g,hm,fun w j=>Gf i f hd (dE hz w) j⟩
  ·exact hv.elim
 ·exact hv.elim
theorem yq{w:World}{b cap s q:Nat}{buf:Array Value}{a t:Bool}(h:w.heap[b]? =some (.chan cap buf a s q t)):(getObj b).run P w=.ok (.chan cap buf a s q t) w:=by
 simp only[getObj,Sem.run,h]
theorem FX{t:TypeId}{x:Value}{ats:Array TypeId}{ty:TypeId}{K:RK}{h:ad}(a:ats[0]? =some t) (hv:MP P t x K h):Yv P (Builtin.len_ ats ty #[x]) K h:=by
 unfold MP at hv;split at hv
 ·rename_i s hu
  exact .of_pure hv fun w=>by simp[Builtin.len_,a,ao hu,goInt]
 ·rename_i n e _ hu
  exact .of_pure hv fun w=>by simp[Builtin.len_,a,ao hu,goInt]
 ·rename_i e b n c hu
  exact .of_pure hv fun w=>by simp[Builtin.len_,a,ao hu,goInt]
 ·rename_i k e m hu
  obtain⟨n,hm,f⟩:=hv;refine⟨_,_,f,hm,fun w d=>?_⟩
  cases m with
  |none=>
   have:n=0:=d;subst this;simp[Builtin.len_,a,ao hu,goInt]
  |some r=>
   obtain⟨es,g,i,rfl⟩:=d;simp[Builtin.len_,a,ao hu,goInt,jw i]
 ·rename_i k e m hu
  obtain⟨n,hm,f⟩:=hv;refine⟨_,_,f,hm,fun w d=>?_⟩
  cases m with
  |none=>
   have:n=0:=d;subst this;simp[Builtin.len_,a,ao hu,goInt]
  |some r=>
   obtain⟨cap,buf,j,s,q,i,rfl⟩:=d;simp[Builtin.len_,a,ao hu,goInt,yq i]
 ·exact hv.elim
theorem F0{t:TypeId}{x:Value}{ats:Array TypeId}{ty:TypeId}{K:RK}{h:ad}(a:ats[0]? =some t) (hv:MQ P t x K h):Yv P (Builtin.cap_ ats ty #[x]) K h:=by
 unfold MQ at hv;split at hv
 ·rename_i e b n c hu
  exact .of_pure hv fun w=>by simp[Builtin.cap_,a,ao hu,goInt]
 ·rename_i k e m hu
  obtain⟨n,hm,f⟩:=hv;refine⟨_,_,f,hm,fun w d=>?_⟩
  cases m with
  |none=>
   have:n=0:=d;subst this;simp[Builtin.cap_,a,ao hu,goInt]
  |some r=>
   obtain⟨cap,buf,i,s,q,g,rfl⟩:=d;simp[Builtin.cap_,a,ao hu,goInt,yq g]
 ·exact hv.elim
theorem vW{c:Bool}{k:IntKind}:∀{vs:List Value} {a:Int} {f:Value→Prop},Dg c k a vs f→∃v,f v∧∀w,(vs.foldlM (bif c then Builtin.max2 else Builtin.min2) (Value.int k a):Sem Value).run P w=.ok v w
 | [],a,f,h=>⟨_,h,fun w=>by simp⟩
 | .int k' b::vs,a,f,h=>by
  simp only[Dg]at h;cases hk:Dl k' k with
  |false=>rw[hk]at h;exact h.elim
  |true=>
   rw[hk]at h;have:=wc hk;subst this;obtain⟨v,e,d⟩:=vW h;refine⟨v,e,fun w=>?_⟩
   rw[←d w];cases c<;>simp[List.foldlM_cons,Builtin.max2,Builtin.min2]
theorem uj{a:Bool}{vs:List Value}{f:Value→Prop}{ats:Array TypeId}{ty:TypeId}(h:zk a vs f):∃v,f v∧∀w,(bif a then Builtin.max_ ats ty vs.toArray else Builtin.min_ ats ty vs.toArray).run P w=.ok v w:=by
 unfold zk at h;split at h
 ·obtain⟨v,c,b⟩:=vW (P:=P) h
  refine⟨v,c,fun w=>?_⟩
  have:=b w;cases a<;>simpa[Builtin.max_,Builtin.min_]using this
 ·exact h.elim
theorem IJ{a:Addr}{e:MapEntry}{w:World}(i:a.off=0)(h:GR w.heap a.block e):(Instr.entry (.pointer (some a))).run P w=.ok (.tuple #[e.key,e.val]) w:=by
 obtain⟨m,c,f,d,g,es,hi,k,hm,n⟩:=h;obtain⟨b,off,j⟩:=a;simp only at i hi;subst i;have o:(getObj b).run P w=.ok (.mapIter (some m) c f d) w:=by simp only[getObj,Sem.run,hi]
 simp[Instr.entry,o,k,jw hm,n]
def BQ:DV→Value→Prop
 | .t,v=>v=.bool true
 | .f,v=>v=.bool false
 | .u,v=>v=undef
 | .x,_=>True
def DecOk(d:q9)(r:bP):Prop:=∀t,nP d t=.x∨∃v,il r t=some v∧BQ (nP d t) v
theorem DecOk.at{d:q9}{r:bP}(h:DecOk d r){t:Nat}{v:Value}(hv:il r t=some v):BQ (nP d t) v:=by
 rcases h t with e|⟨u,a,b⟩
 ·rw[e];trivial
 ·rw[hv]at a;cases a;exact b
theorem qG{d:q9}{r:bP}(hd:DecOk d r){o:Operand}{v:Value}(h:cA r o=some v):BQ (wm d o) v:=by
 cases o with
 |tmp t=>exact hd.at h
 |const c=>
  simp[cA]at h;subst h;cases c with
  |bool b=>cases b<;>exact rfl
  |_=>trivial
 |global g=>trivial
 |func f=>trivial
theorem yx{t:TypeId}(h:nf P t=true):∃d,P.underlying t=some d∧∀m,d≠ .interface m:=by
 unfold nf at h;split at h
 ·cases h
 ·rename_i d hd;exact⟨_,hd,fun m e=>by subst e;simp_all⟩
 ·cases h
theorem vZ{t:TypeId}{v:Value}(h:nf P t=true)(w:World):(Instr.makeInterface t v).run P w=.ok (.iface t v) w:=by
 obtain⟨d,hd,a⟩:=yx h;simp only[Instr.makeInterface,Sem.run_bind,ao hd,Result.andThen_ok];cases d<;>first|exact absurd rfl (a _)|rfl
theorem zI{t u:TypeId}{v:Value}(h:nf P t=true)(w:World):(Instr.typeAssert (.iface t v) u t false).run P w=.ok v w:=by
 obtain⟨d,hd,a⟩:=yx h;simp only[Instr.typeAssert,Sem.run_bind,ao hd,Result.andThen_ok];cases d<;>first|exact absurd rfl (a _)|(simp[Sem.run_pure])
theorem ij{t:TypeId}{z:List Value}(h:nz P t=some z):∃v,ua P t=some v∧v.cells.toList=z:=by
 unfold nz at h;cases hz:ua P t with
 |none=>rw[hz]at h;cases h
 |some v=>rw[hz]at h;simp only[bi.injEq]at h;exact⟨v,rfl,h⟩
theorem nZ{t:TypeId}{v:Value}(h:ua P t=some v):∃i,P.info? t=some i∧i.zero=some v:=by
 unfold ua at h;cases hi:P.info? t with
 |none=>rw[hi]at h;cases h
 |some i=>rw[hi]at h;exact⟨i,rfl,h⟩
theorem KS{A B:List Value}{x:Value}{m:Nat}(h:A.length=m):(A++x::B).take (m+1)=A++ [x]:=by
 subst h;rw[List.take_append,bh (by omega),show A.length+1-A.length=1 by omega];rfl
theorem KT{A B:List Value}{x:Value}{m n:Nat}(h:A.length=m):(A++x::B).drop (m+1+n)=B.drop n:=by
 subst h;rw[List.drop_append,List.drop_eq_nil_of_le (by omega),show A.length+1+n-A.length=n+1 by omega];rfl
theorem EU(off:Nat):∀(xs:List Value) (k:Nat) (arr:Array Value),off+k+xs.length≤arr.size→
  (xs.zipIdx k).foldl (fun cs (c,j)=>cs.setIfInBounds (off+j) c) arr=(Ew arr.toList (off+k) xs).toArray
 | [],k,arr,_=>by simp[Ew]
 |x::xs,k,arr,h=>by
  simp only[aO]at h;simp only[List.zipIdx_cons,List.foldl_cons];rw[EU off xs (k+1) _ (by simp;omega)];have hm:off+k<arr.toList.length:=by simp;omega
  have b:arr.toList.set (off+k) x=arr.toList.take (off+k)++x::arr.toList.drop (off+k+1):=by
   rw[List.set_eq_take_append_cons_drop,if_pos hm]
  have a:(arr.toList.take (off+k)).length=off+k:=by simp;omega
  congr 1
  unfold Ew;rw[Array.toList_setIfInBounds,b,←qt,KS a,KT a];simp only[List.append_assoc,dt,List.nil_append,aO,List.drop_drop];rw[show off+k+1+xs.length=off+k+(xs.length+1) by omega]
theorem pu{a:Nat→Option (Nat×Nat)}:∀(parts:List (Nat×Value)) (cs cs':List Value),yB a cs parts=some cs'→Instr.fill a cs.toArray parts=some cs'.toArray
 | [],cs,cs',h=>by simp only[yB,bi.injEq]at h;subst h;rfl
 |(i,v)::rest,cs,cs',h=>by
  simp only[yB]at h;cases hp:a i with
  |none=>rw[hp]at h;cases h
  |some os=>
   obtain⟨off,size⟩:=os;rw[hp]at h;simp only at h;cases hb:(aY v.cells.toList.length size&&tN (off+v.cells.toList.length) cs.length)with
   |false=>rw[hb]at h;cases h
   |true=>
    rw[hb]at h;simp only[aV]at hb;have c:=aI hb.1;have e:=gp hb.2;have b:=pu rest _ _ h;have g:v.cells.size=size:=by simpa using c
    have f:off+v.cells.size≤cs.length:=by simpa using e
    have d:Array.foldl (fun cs x=>cs.setIfInBounds (off+x.2) x.1) cs.toArray v.cells.zipIdx=(Ew cs off v.cells.toList).toArray:=by
     have:=EU off v.cells.toList 0 cs.toArray (by simpa using f);simp only[dL]at this;rw[←this,←Array.foldl_toList];congr 1
     simp[Array.toList_zipIdx]
    simp only[Instr.fill,hp];rw[if_neg (by simp[g];omega)];simp only[d];exact b
theorem lP{N:Nat}{r:bP}{a:Act}(h:Agree N r a):∀{ps:List (Nat×Operand)} {vs:List (Nat×Value)},m9 r ps=some vs→ps.map (fun p=>(p.1,a.eval p.2))=vs
 | [],vs,hv=>by simp[m9]at hv;subst hv;rfl
 |(i,o)::ps,vs,hv=>by
  simp only[m9]at hv;cases ho:cA r o with
  |none=>simp[ho]at hv
  |some v=>cases hos:m9 r ps with
   |none=>simp[ho,hos]at hv
   |some us=>simp[ho,hos]at hv;subst hv;simp[im h ho,lP h hos]
theorem ng{t:TypeId}(h:tG P t=true)(w:World):(sizeOf t).run P w=.ok (bA P t) w:=by
 unfold tG at h;cases hi:P.info? t with
 |none=>rw[hi]at h;cases h
 |some i=>simp[sizeOf,bZ hi,bA,hi]
theorem Ah(w:World):∀l:List Field,wz P l=true→(l.mapM fun f:Field=>((do pure (f.offset,←sizeOf f.type)):Sem (Nat×Nat))).run P w=.ok (l.map fun f:Field=>(f.offset,bA P f.type)) w
 | [],_=>rfl
 |f::l,h=>by
  simp only[wz]at h;cases hf:tG P f.type with
  |false=>rw[hf]at h;cases h
  |true=>
   rw[hf]at h;rw[List.mapM_cons];simp only[Sem.run_bind,ng hf,Result.andThen_ok,Sem.run_pure,Ah w l h,eI]
theorem wy{t:TypeId}{ps:Array (Nat×Value)}{cs:List Value}(a:DC P t ps.toList=some cs)(w:World):
  (Instr.build t ps).run P w=.ok (.agg cs.toArray) w:=by
 unfold DC at a;split at a
 ·rename_i fs z hu hz
  obtain⟨v,hz,hv⟩:=ij hz;cases ha:wz P fs.toList with
  |false=>rw[ha]at a;cases a
  |true=>
   rw[ha]at a;have g:(fs.mapM fun f:Field=>((do pure (f.offset,←sizeOf f.type)):Sem (Nat×Nat))).run P w=.ok (fs.map fun f:Field=>(f.offset,bA P f.type)) w:=by
    rw[Array.mapM_eq_mapM_toList];simp only[Sem.run_map,Ah w fs.toList ha,Result.andThen_ok];congr 1
    apply cj;simp
   have d:=pu _ _ _ a;have b:(fun i:Nat=>(fs.map fun f:Field=>(f.offset,bA P f.type))[i]?)=F9 P fs.toList:=by
    funext i;unfold F9;rw[Array.getElem?_map,aR];cases fs[i]?<;>rfl
   have c:v.cells=z.toArray:=by rw[←hv]
   rw[cond_true]at a;rw[←b]at d;simp only[Instr.build,Sem.run_bind,dE hz,Result.andThen_ok,ao hu,g,c,d,Sem.run_pure]
 ·rename_i n e z hu hz
  obtain⟨v,hz,hv⟩:=ij hz;cases ha:tG P e with
  |false=>rw[ha]at a;cases a
  |true=>
   rw[ha]at a;have d:=pu _ _ _ a;have c:v.cells=z.toArray:=by rw[←hv]
   simp only[Instr.build,Sem.run_bind,dE hz,Result.andThen_ok,ao hu,ng ha,c,d,Sem.run_pure]
 ·cases a
theorem xq{ek:Option (Kind×Kind)}{o:Oper}{r:bP}{K:RK}{h:ad}{N:Nat}{a:Act}(Q:Agree N r a)(g:xh P ek o.op r K h)(d:q9)(hd:DecOk d r):
  ∃v S,K v S∧Lg S h∧BQ (D5 d o.op) v∧∀w:World,Lg S w.heap→(execOp a.eval o).run P w=.ok (.value v) w:=by
 have j:∀{x:Operand} {v:Value},cA r x=some v→a.eval x=v:=fun h=>im Q h
 have fin:∀{s:Sem Value},Yv P s K h→D5 d o.op=.x→(∀w,(execOp a.eval o).run P w=(do pure (Next.value (←s)):Sem Next).run P w)→
   ∃v S,K v S∧Lg S h∧BQ (D5 d o.op) v∧∀w:World,Lg S w.heap→(execOp a.eval o).run P w=.ok (.value v) w:=by
  rintro s ⟨v,S,n,B,z⟩ hx F;exact⟨v,S,n,B,by rw[hx];trivial,fun w C=>by rw[F w];exact gv (z w C)⟩
 obtain⟨O,L,type,lh,E,G⟩:=o;simp only at g fin⊢;cases L with
 |move x=>
  simp only[xh]at g;split at g
  ·rename_i v hv
   exact⟨v,none,g,trivial,qG hd hv,fun w _=>by simp[execOp,j hv]⟩
  ·exact g.elim
 |assign x=>
  simp only[xh]at g;split at g
  ·rename_i v hv
   exact⟨v,none,g,trivial,qG hd hv,fun w _=>by simp[execOp,j hv]⟩
  ·exact g.elim
 |pick c x y=>
  simp only[xh]at g;split at g
  ·rename_i vc va vb hc hx R
   unfold Mj at g;split at g
   ·rename_i cb
    have I:=qG hd hc;have V:=qG hd hx;have Z:=qG hd R;have F:∀w,(execOp a.eval ⟨O,.pick c x y,type,lh,E,G⟩).run P w=.ok (.value (if cb then va else vb)) w:=fun w=>by
     simp[execOp,j hc,j hx,j R,asBool]
    have H:BQ (D5 d (.pick c x y)) (if cb then va else vb):=by
     simp only[D5];cases hcd:wm d c with
     |t=>
      rw[hcd]at I;have:cb=true:=by simpa[BQ]using I
      subst this;exact V
     |f=>
      rw[hcd]at I;have:cb=false:=by simpa[BQ]using I
      subst this;exact Z
     |u=>trivial
     |x=>trivial
    split at g
    ·rename_i bx by'
     have M:(if cb=true then Value.bool bx else Value.bool by')=.bool (bif cb then bx else by'):=by cases cb<;>rfl
     rw[M]at H;exact⟨_,none,g,trivial,H,fun w _=>by rw[F w,M]⟩
    ·cases cb
     ·exact⟨_,none,g,trivial,H,fun w _=>F w⟩
     ·exact⟨_,none,g,trivial,H,fun w _=>F w⟩
   ·exact g.elim
  ·exact g.elim
 |load t x=>
  simp only[xh]at g;split at g
  ·rename_i v hv
   obtain⟨u,S,n,B,z⟩:=yu g;exact fin ⟨u,some S,n,B,z⟩ rfl fun w=>by simp only[execOp,j hv]
  ·exact g.elim
 |nilCheck x=>
  simp only[xh]at g;split at g
  ·rename_i p hv
   obtain⟨b,rfl,n⟩:=g;exact⟨_,none,n,trivial,trivial,fun w _=>by simp[execOp,j hv]⟩
  ·exact g.elim
 |binOp L t x y yt=>
  simp only[xh]at g;split at g
  ·rename_i v u hv hu
   obtain⟨Y,S,n,B,z⟩:=F3 (x:=x) (y:=y) g;refine⟨Y,S,n,B,trivial,fun w C=>?_⟩
   simp only[execOp,j hv,j hu];exact gv (z w C)
  ·rename_i v u hna hv hu
   have go:(∀c d,v=.agg c→u=.agg d→False)∧(v=.nilIface→u=.nilIface→False)∧Yv P (binOp L t v u) K h:=by
    split at g
    ·exact Al (neg:=false) g
    ·exact Al (neg:=true) g
    ·exact F1 g
   obtain⟨h1,h2,Y,S,n,B,z⟩:=go;refine⟨Y,S,n,B,trivial,fun w C=>?_⟩
   simp only[execOp,j hv,j hu];simp[GA L t x y v u h1 h2 w,z w C]
  ·exact g.elim
 |unOp L t x=>
  simp only[xh]at g;split at g
  ·rename_i v hv
   obtain⟨u,S,n,B,z⟩:=Il (P:=P) (h:=h) g;refine⟨u,S,n,B,?_,fun w C=>by simp only[execOp,j hv];exact gv (z w C)⟩
   have J:=qG hd hv;cases L<;>try trivial
   simp only[D5];have A:=z {(default:World)with heap:=h} B;cases hx:wm d x with
   |t=>
    rw[hx]at J;have:v=.bool true:=J;subst this;simp[Op.unary]at A;exact A.symm
   |f=>
    rw[hx]at J;have:v=.bool false:=J;subst this;simp[Op.unary]at A;exact A.symm
   |u=>trivial
   |x=>trivial
  ·exact g.elim
 |convert s t x=>
  simp only[xh]at g;split at g
  ·rename_i v hv
   exact fin (Et g) rfl fun w=>by simp only[execOp,j hv]
  ·exact g.elim
 |extract x i=>
  simp only[xh]at g;split at g
  ·rename_i vs hv
   split at g
   ·rename_i u hu
    have W:vs[i]? =some u:=by simpa using hu
    exact⟨u,none,g,trivial,trivial,fun w _=>by simp[execOp,j hv,Instr.extract,W]⟩
   ·exact g.elim
  ·exact g.elim
 |fieldAddr t x f=>
  simp only[xh]at g;split at g
  ·rename_i b u off hv hf
   exact fin (yW hf g) rfl fun w=>by simp only[execOp,j hv]
  ·exact g.elim
 |field t x f=>
  simp only[xh]at g;split at g
  ·rename_i v hv
   exact fin (C5 g) rfl fun w=>by simp only[execOp,j hv]
  ·exact g.elim
 |indexAddr t x i=>
  simp only[xh]at g;split at g
  ·rename_i v u hv hu
   exact fin (xr g) rfl fun w=>by simp only[execOp,j hv,j hu]
  ·exact g.elim
 |index t x i=>
  simp only[xh]at g;split at g
  ·rename_i v u hv hu
   exact fin (C4 g) rfl fun w=>by simp only[execOp,j hv,j hu]
  ·exact g.elim
 |slice t x lo hi mx=>
  simp only[xh]at g;split at g
  ·rename_i v l h' m hv hl hh hm
   have T:∀{x:Option Operand} {v:Option Value},Cj r x=some v→x.map a.eval=v:=by
    intro x v hx;cases x with
    |none=>simp[Cj]at hx;subst hx;rfl
    |some x=>
     simp only[Cj]at hx;cases F:cA r x with
     |none=>simp[F]at hx
     |some u=>simp[F]at hx;subst hx;simp[j F]
   exact fin (C2 g) rfl fun w=>by simp only[execOp,j hv,T hl,T hh,T hm]
  ·exact g.elim
 |lookup t x k ok=>
  simp only[xh]at g;split at g
  ·rename_i v u hv hu
   exact fin (Bm g) rfl fun w=>by simp only[execOp,j hv,j hu]
  ·exact g.elim
 |makeInterface t x=>
  simp only[xh]at g;split at g
  ·rename_i v hv
   cases hb:nf P t with
   |false=>rw[hb]at g;exact g.elim
   |true=>
    rw[hb,cond_true]at g;exact⟨_,none,g,trivial,trivial,fun w _=>by simp only[execOp,j hv];exact gv (vZ hb w)⟩
  ·exact g.elim
 |typeAssert x u t ok=>
  simp only[xh]at g;split at g
  ·rename_i v hv
   cases ok with
   |true=>exact g.elim
   |false=>
    rw[cond_false]at g;unfold Hl at g;cases hb:nf P t with
    |false=>rw[hb]at g;exact g.elim
    |true=>
     rw[hb,cond_true]at g;split at g
     ·obtain⟨y,rfl,n⟩:=g
      exact⟨_,none,n,trivial,trivial,fun w _=>by simp only[execOp,j hv];exact gv (zI hb w)⟩
     ·exact g.elim
  ·exact g.elim
 |makeFunc fn first cap=>
  simp only[xh]at g;split at g
  ·rename_i vs us hv hu
   have M:=jL Q hv;have e2:=jL Q hu;refine⟨_,none,g,trivial,trivial,fun w _=>?_⟩
   have X:first.map a.eval=vs.toArray:=by rw[←M];apply cj;simp
   have f2:cap.map a.eval=us.toArray:=by rw[←e2];apply cj;simp
   simp[execOp,Instr.makeFunc,X,f2]
  ·exact g.elim
 |entry it=>
  simp only[xh]at g;split at g
  ·rename_i b kk vk hv
   obtain⟨h0,e,x,y,hi,n,R,hK⟩:=g;refine⟨_,_,hK,hi,trivial,fun w C=>?_⟩
   simp only[execOp,j hv];refine gv ?_;rw[IJ h0 C,n,R]
  ·exact g.elim
 |call c=>
  simp only[xh]at g;have D:∀{b:Builtin} {vs:List Value},c.callee=.builtin b→lg r c.args.toList=some vs→∃cs:Array Bool,∀w,(execOp a.eval ⟨O,.call c,type,lh,E,G⟩).run P w=
    (builtin b c.argTypes type cs vs.toArray).run P w:=by
   intro b vs hc q;have M:=jL Q q;have X:c.args.map a.eval=vs.toArray:=by rw[←M];apply cj;simp
   refine⟨c.args.map fun| .const _=>true|_=>false,fun w=>?_⟩
   simp[execOp,resolve,hc,X,invoke];rfl
  split at g
  ·rename_i v t hc q hat
   obtain⟨cs,D⟩:=D hc q;obtain⟨u,S,n,B,z⟩:=FX (ats:=c.argTypes) (ty:=type) (by rw[←aR,hat];rfl) g;exact⟨u,S,n,B,trivial,fun w C=>by rw[D w];simp only[builtin];exact gv (z w C)⟩
  ·rename_i v t hc q hat
   obtain⟨cs,D⟩:=D hc q;obtain⟨u,S,n,B,z⟩:=F0 (h:=h) (ats:=c.argTypes) (ty:=type) (by rw[←aR,hat];rfl) g;exact⟨u,S,n,B,trivial,fun w C=>by rw[D w];simp only[builtin];exact gv (z w C)⟩
  ·rename_i vs hc q
   obtain⟨cs,D⟩:=D hc q;obtain⟨u,n,z⟩:=uj (P:=P) (ats:=c.argTypes) (ty:=type) g;exact⟨u,none,n,trivial,trivial,fun w _=>by rw[D w];simp only[builtin];exact gv (z w)⟩
  ·rename_i vs hc q
   obtain⟨cs,D⟩:=D hc q;obtain⟨u,n,z⟩:=uj (P:=P) (ats:=c.argTypes) (ty:=type) g;exact⟨u,none,n,trivial,trivial,fun w _=>by rw[D w];simp only[builtin];exact gv (z w)⟩
  ·exact g.elim
 |build t ps=>
  simp only[xh]at g;split at g
  ·rename_i vs q
   split at g
   ·rename_i cs hcs
    refine⟨_,none,g,trivial,trivial,fun w _=>?_⟩
    have hp:(ps.map fun x=>(x.1,a.eval x.2))=vs.toArray:=by
     rw[←lP Q q];apply cj;simp
    have F:=wy (ps:=vs.toArray) (by simpa using hcs) w;simp only[execOp];rw[show(ps.map fun(i,x)=>(i,a.eval x))=vs.toArray from hp]
    exact gv F
   ·exact g.elim
  ·exact g.elim
 |_=>simp only[xh]at g
end Go.Lift
namespace Go.Lift
open Go
variable {P:Program}
def E8(P:Program)(s:Sem Next)(K:WK)(w:World):Prop:=
 (∃v w',s.run P w=.ok (.value v) w'∧Tame w w'∧K v w'.heap)∨
 (∃w',s.run P w=.ok .skip w'∧Tame w w'∧K undef w'.heap)∨
 (∃f args,s.run P w=.ok (.enter f args) w∧Calls P f args w fun e w'=>Tame w w'∧∃v,e=.returned v∧K v w'.heap)∨
 (∃l fn tmps assign body,s.run P w=.ok (.round l fn tmps assign body) w∧
  ∀(c:Frame) (cs:List Frame),∃b w',Tame w w'∧K (.bool b) w'.heap∧Steps P (lone (Frame.round l fn tmps assign body .normal) (c::cs) w) (lone (c.finish (.bool b)) cs w'))
def Wv(P:Program)(s:Sem Value)(K:WK)(w:World):Prop:=∃v w',s.run P w=.ok v w'∧Tame w w'∧K v w'.heap
theorem Wv.out{s:Sem Value}{K:WK}{w:World}(h:Wv P s K w):E8 P (do pure (Next.value (←s))) K w:=by
 obtain⟨v,w',b,a,c⟩:=h;exact .inl ⟨v,w',gv b,a,c⟩
def Wu(P:Program)(s:Sem Unit)(K:WK)(w:World):Prop:=∃w',s.run P w=.ok () w'∧Tame w w'∧K undef w'.heap
theorem Wu.out{s:Sem Unit}{K:WK}{w:World}(h:Wu P s K w):E8 P (do s;pure Next.skip) K w:=by
 obtain⟨w',b,a,c⟩:=h;exact .inr (.inl ⟨w',JO b,a,c⟩)
def ik(w:World)(h:ad):World:={w with heap:=h}
theorem dB(w:World)(h:ad):Tame w (ik w h):=⟨rfl,rfl,rfl⟩
theorem iy(e:TypeId)(cs:Array Value)(w:World):(newRow e cs).run P w=.ok (aC w.heap) (ik w (hnew w.heap cs.toList e)):=by
 simp[newRow,newObj,Sem.run,aC,ik,hnew,bind,Sem.bind,pure]
theorem Ab(o:Obj)(w:World):(newObj o).run P w=.ok w.heap.size (ik w (w.heap.push o)):=rfl
theorem Bt{h:ad}{a b:Addr}(v:Value)(c:a≠b):aG (hset h a v) b=aG h b:=
 World.cell?_setCell_other {(default:World)with heap:=h} a b v c
theorem yV{h:ad}{a:Addr}{u:Value}(v:Value)(hc:aG h a=some u):aG (hset h a v) a=some v:=
 World.cell?_setCell_same {(default:World)with heap:=h} a v hc
theorem Dm{h:ad}{a b:Addr}(v:Value):zo (hset h a v) b=zo h b:=
 World.frozen?_setCell {(default:World)with heap:=h} a b v
theorem Wr.hset{h:ad}{a b:Addr}(v:Value)(d:Wr h b):Wr (hset h a v) b:=by
 obtain⟨⟨u,c⟩,f⟩:=d;refine⟨?_,by rw[Dm];exact f⟩
 by_cases e:a=b
 ·subst e;exact⟨v,yV v c⟩
 ·exact⟨u,by rw[Bt v e];exact c⟩
theorem FP{w:World}{a:Addr}{v:Value}(hv:∀cs,v≠ .agg cs)(d:∀cs,v≠ .tuple cs)(g:Wr w.heap a):(store a v).run P w=.ok () (ik w (hset w.heap a v)):=by
 obtain⟨⟨u,e⟩,f⟩:=g;have b:w.cell? a=some u:=e;have c:w.frozen? a=false:=f;cases v<;>first|exact absurd rfl (hv _)|exact absurd rfl (d _)|(simp only[store,Sem.run,b,c];rfl)
theorem Dd{v:Value}{vs:List Value}(h:bH (v::vs)=true):(∀cs,v≠ .agg cs)∧(∀cs,v≠ .tuple cs)∧bH vs=true:=by
 simp only[bH,aV]at h;refine⟨fun cs e=>?_,fun cs e=>?_,h.2⟩<;>(subst e;exact absurd h.1 (by simp))
theorem oC{a:Addr}:∀(vs:List Value) (i:Nat) (w:World),bH vs=true→(∀j,j<vs.length→Wr w.heap (adr a (i+j)))→
  (storeCells a vs i).run P w=.ok () (ik w (gd w.heap a i vs))
 | [],i,w,_,_=>rfl
 |v::vs,i,w,b,hw=>by
  obtain⟨d,f,b⟩:=Dd b;have c:=hw 0 (by simp);simp only[dL]at c;have e:a.add i=adr a i:=(qo a i).symm;simp only[storeCells,e,Sem.run_bind,FP d f c,Result.andThen_ok];rw[oC vs (i+1) (ik w (hset w.heap (adr a i) v)) b fun j g=>?_]
  ·rfl
  ·have:=hw (j+1) (by simp only[aO];omega)
   rw[show i+1+j=i+(j+1) by omega]
   exact this.hset v
theorem Ct{a:Addr}(m:Nat):∀(vs:List Value) (i:Nat) (h:ad),gd h (adr a m) i vs=gd h a (m+i) vs
 | [],_,_=>rfl
 |v::vs,i,h=>by
  simp only[gd];rw[Ct m vs (i+1),wC];rfl
theorem CO{t:TypeId}{a v:Value}{K:WK}{w:World}(c:Fw P t a v K w.heap):Wu P (Instr.storeAt t a v) K w:=by
 unfold Fw at c;split at c
 ·rename_i a
  cases hb:(aY v.cells.toList.length (bA P t)&&bH v.cells.toList)with
  |false=>rw[hb]at c;exact c.elim
  |true=>
   rw[hb]at c;simp only[aV]at hb;have n:=aI hb.1;obtain⟨c,hz⟩:=mG c;have k:v.cells.size=bA P t:=by simpa using n
   have m:(∀j,j<v.cells.toList.length→Wr w.heap (adr a (0+j)))→(Instr.storeAt t (.pointer (some a)) v).run P w=.ok () (ik w (gd w.heap a 0 v.cells.toList)):=by
    intro d;have:=oC (P:=P) v.cells.toList 0 w hb.2 d;simp[Instr.storeAt,Instr.sureAddr,storeVar,hz,k,this]
   split at c
   ·rename_i u hu
    obtain⟨d,g⟩:=c;refine⟨_,m (fun j f=>?_),dB _ _,?_⟩
    ·rw[hu]at f;simp only[aO,List.length_nil]at f
     obtain rfl:j=0:=by omega
     exact d
    ·rw[hu];exact g
   ·obtain⟨d,g⟩:=c
    refine⟨_,m (fun j f=>?_),dB _ _,g⟩
    rcases d with e|⟨b,i,d⟩
    ·rw[e]at f;cases f
    ·cases i;exact d j f
 ·exact c.elim
theorem gZ(z:Array Value)(n:Nat):(Builtin.zeroCells z n).toList=cI n z.toList:=by
 have key:∀n,(List.range (n*z.size)).map (fun i=>z[i%z.size]!)=(gi n z.toList).flatten:=by
  intro n;induction n with
  |zero=>simp
  |succ n ih=>
   rw[Nat.succ_mul,List.range_add,List.map_append,ih,List.replicate_succ',List.flatten_append];congr 1
   simp only[List.map_map,List.flatten_cons,List.flatten_nil,List.append_nil];apply List.ext_getElem
   ·simp
   ·intro i a b
    simp only[List.length_map,List.length_range]at a;simp[Nat.mod_eq_of_lt a,a,Nat.add_mod]
 simpa[Builtin.zeroCells,cI]using key n
theorem cJ{t e:TypeId}(h:rU P t=some e):P.underlying t=some (.slice e):=by
 unfold rU at h;split at h
 ·rename_i e' hu;simp only[bi.injEq]at h;subst h;exact hu
 ·cases h
theorem G8{z:Value}{n:Nat}:((Array.range (n*z.cells.size)).map (z.cells[· %z.cells.size]!))=(cI n z.cells.toList).toArray:=by
 have:=gZ z.cells n;unfold Builtin.zeroCells at this;apply cj;rw[this]
theorem xJ{t e:TypeId}{n:Nat}{ps:Array (Nat×Value)}{z cs:List Value}(o:rU P t=some e)(hz:nz P e=some z)(q:n*bA P e≤16777216)(g:z.length=bA P e)
  (p:yB (fun i=>some (i*bA P e,bA P e)) (cI n z) ps.toList=some cs)(w:World):
  (Instr.buildSlice t n ps).run P w=.ok (.slice (some (aC w.heap)) n n) (ik w (hnew w.heap cs e)):=by
 obtain⟨v,hv,c⟩:=ij hz;obtain⟨i,hi,k⟩:=nZ hv;have m:(sizeOf e).run P w=.ok (bA P e) w:=by simp[sizeOf,bZ hi,bA,hi]
 have f:v.cells.size=bA P e:=by rw[←g,←c];simp
 have j:=pu _ _ _ p;have a:((Array.range (n*bA P e)).map (fun i=>(if n*bA P e=0 then #[]else v.cells)[i%(if n*bA P e=0 then #[]else v.cells).size]!))=(cI n z).toArray:=by
  by_cases b:n*bA P e=0
  ·have:(cI n z).length=0:=by simp[cI,g,b]
   rw[bC.1 this];simp[b]
  ·simp only[if_neg b]
   rw[←f,G8,c]
 have d:¬(n*bA P e>2^24):=by omega
 simp only[Instr.buildSlice,Sem.run_bind,ao (cJ o),Result.andThen_ok,m,if_neg d];by_cases b:n*bA P e=0
 ·simp only[if_pos b]at a
  simp only[if_pos b,Sem.run_bind,Sem.run_pure,Result.andThen_ok,a,j,iy]
 ·simp only[if_neg b]at a
  simp only[if_neg b,Sem.run_bind,Sem.run_pure,Result.andThen_ok,dE hv,a,j,iy]
theorem Ig{h:ad}{a:Addr}{vs:List Value}(b:Row h a vs):∀j v,vs[j]? =some v→aG h (a.add j)=some v:=fun j v hv=>by
 rw[←qo];exact b j v hv
theorem tC{size n cap len:Nat}{b:Option Addr}{vs:List Value}{w:World}(d:SRow w.heap b (n*size) vs):(Builtin.firstCells size n (.slice b len cap)).run P w=.ok vs.toArray w:=by
 obtain⟨c,a⟩:=d;cases b with
 |none=>
  rcases a with rfl|⟨_,h,_⟩
  ·simp[Builtin.firstCells]
  ·cases h
 |some b=>
  refine run_firstCells_some w size n b len cap vs c fun j v hv=>?_
  rcases a with rfl|⟨_,h,a⟩
  ·cases hv
  ·cases h;exact Ig a j v hv
theorem zS{a:Addr}{m:Nat}{xs:List Value}{w:World}(d:bH xs=true)(c:rc w.heap (some a) m xs):
  (storeCells (a.add m) xs).run P w=.ok () (ik w (gd w.heap a m xs)):=by
 rcases c with rfl|⟨b,e,c⟩
 ·rfl
 ·cases e
  have:=oC (P:=P) (a:=adr a m) xs 0 w d fun j f=>by rw[wC,aD];exact c j f
  rw[←qo,this,Ct,dL]
set_option maxHeartbeats 1000000 in
theorem AW{t e u ty:TypeId}{b:Option Addr}{sl f d:Nat}{xs:List Value}{x:Value}{K:WK}{w:World}(E:rU P t=some e)(k:(∃e',P.underlying u=some (.slice e'))∨P.underlying u=some .string)
  (g:∀w,(Builtin.lenOf x).run P w=.ok d w)(hx:∀w':World,w'.heap=w.heap→(Builtin.firstCells (bA P e) d x).run P w'=.ok xs.toArray w')
  (hi:∃i,P.info? e=some i)
  (h:K9 P e b sl f d xs K w.heap):Wv P (Builtin.append_ #[t,u] ty #[.slice b sl f,x]) K w:=by
 obtain⟨i,hi⟩:=hi;have j:bA P e=i.size:=by simp[bA,hi]
 have A:nD P e=i.bytes:=by simp[nD,hi]
 by_cases hc:sl+d≤f
 ·obtain⟨J,H,y⟩:=h.1 hc
  refine⟨_,_,?_,dB w (ey w.heap b (sl*bA P e) xs),y⟩;cases b with
  |none=>
   have c:=hx w rfl;rw[j]at c;rcases k with⟨e',hd⟩|hd<;>(simp[Builtin.append_,ao (cJ E),ao hd,sizeOf,bZ hi,g,hc,c];rfl)
  |some a=>
   have p:=zS (P:=P) H J;have c:=hx w rfl;rw[j]at p c;rcases k with⟨e',hd⟩|hd<;>(simp[Builtin.append_,ao (cJ E),ao hd,sizeOf,bZ hi,g,hc,c,p,ey,j])
 ·obtain⟨n,z,I,hz,F,C,y⟩:=h.2 (by omega)
  obtain⟨v,hv,B⟩:=ij hz;obtain⟨M,s,L⟩:=nZ hv;rw[hi]at s;cases s;rw[A]at F C;have q:¬i.bytes=0:=by omega
  have m:¬(281474976710656<Builtin.nextslicecap (sl+d) f*i.bytes):=by omega
  have c:=hx w.drew rfl;have o:(Builtin.firstCells (bA P e) sl (.slice b sl f)).run P w.drew=.ok n.toArray w.drew:=tC I;rw[j]at c o;have D:sl+d≤(Question.appendCap (sl+d) f e).cut (w.tape w.drawn (.appendCap (sl+d) f e)):=Nat.le_add_right _ _;refine⟨_,ik w.drew (hnew w.heap (n++xs++cI ((Question.appendCap (sl+d) f e).cut (w.tape w.drawn (.appendCap (sl+d) f e))-(sl+d)) z) e),?_,⟨rfl,rfl,rfl⟩,y _ D⟩
  have G:(Builtin.zeroCells v.cells ((Question.appendCap (sl+d) f e).cut (w.tape w.drawn (.appendCap (sl+d) f e))-(sl+d)))=(cI ((Question.appendCap (sl+d) f e).cut (w.tape w.drawn (.appendCap (sl+d) f e))-(sl+d)) z).toArray:=by
   apply cj;rw[gZ,B]
  rcases k with⟨e',hd⟩|hd<;>(simp[Builtin.append_,ao (cJ E),ao hd,sizeOf,bZ hi,g,hc,q,m,Question.forced,c,o,dE hv,iy,G,aC];rfl)
theorem Aw{t:TypeId}{K:Prop}(h:Kb P t K):∃i,P.info? t=some i:=by
 unfold Kb at h;cases hi:P.info? t with
 |none=>rw[hi]at h;exact h.elim
 |some i=>exact⟨i,rfl⟩
theorem wd{t:TypeId}(h:bA P t≠0):∃i,P.info? t=some i:=by
 cases hi:P.info? t with
 |none=>exact absurd (by simp[bA,hi]) h
 |some i=>exact⟨i,rfl⟩
theorem yF{size n:Nat}{x:ByteArray}{w:World}:(Builtin.firstCells size n (.string x)).run P w=.ok ((cT x).take n).toArray w:=by
 simp only[Builtin.firstCells,Sem.run_pure];congr 1
 apply cj;simp[cT,mp,ff,←List.map_take]
theorem ue{t u ty:TypeId}{s x:Value}{K:WK}{w:World}(c:(∃e',P.underlying u=some (.slice e'))∨P.underlying u=some .string)(h:y8 P t s x K w.heap):
  Wv P (Builtin.append_ #[t,u] ty #[s,x]) K w:=by
 unfold y8 at h;split at h
 ·rename_i e b sl sc a xl xc ht
  have hi:=Aw h;obtain⟨⟨xs,d,f⟩,hz⟩:=mG h;exact AW ht c (fun w=>rfl) (fun w' g=>tC (by rw[g];exact d)) hi f
 ·rename_i e b sl sc x ht
  cases hb:aY (bA P e) 1 with
  |false=>rw[hb]at h;exact h.elim
  |true=>
   rw[hb]at h;have j:=aI hb;have i:(cT x).length=x.size:=by simp[cT]
   refine AW ht c (fun w=>rfl) (fun w' _=>?_) (wd (by omega)) h
   rw[yF,bh (by omega)]
 ·exact h.elim
theorem xi{n:Int}(b:0≤n)(a:n≤9223372036854775807):IntKind.i64.wrap n=n:=IntWalk.i64_in n ⟨by omega,a⟩
theorem GM{t e u ty:TypeId}{b:Option Addr}{sl f:Nat}{k0 k:IntKind}{l:Int}{z:List Value}{K:WK}{w:World}(y:rU P t=some e)(A:P.underlying u=some (.int k0))
  (hz:nz P e=some z)(L:z.length=bA P e)(V:0≤l)(J:l*nD P e≤2^48)(W:l≤9223372036854775807)(h3:((sl+l.toNat:Nat):Int)≤9223372036854775807)
  (h:K9 P e b sl f l.toNat (cI l.toNat z) K w.heap):Wv P (Builtin.append_ #[t,u] ty #[.slice b sl f,.int k l]) K w:=by
 obtain⟨v,hv,D⟩:=ij hz;obtain⟨i,hi,Y⟩:=nZ hv;have j:bA P e=i.size:=by simp[bA,hi]
 have B:nD P e=i.bytes:=by simp[nD,hi]
 have x:IntKind.wrap .i64 l=l:=xi V W;have c:¬l<0:=by omega
 rw[B]at J;have d:¬(281474976710656:Int)<l*i.bytes:=by omega
 have g:∀w':World,(asInt (.int k l)).run P w'=.ok l w':=fun w'=>rfl
 have F:(Builtin.zeroCells v.cells l.toNat)=(cI l.toNat z).toArray:=by apply cj;rw[gZ,D]
 have s:l.toNat*i.size=0→cI l.toNat z= []:=fun R=>by
  have C:(cI l.toNat z).length=l.toNat*i.size:=by rw[←j,←L];unfold cI;simp
  exact bC.1 (by rw[C,R])
 by_cases hc:sl+l.toNat≤f
 ·obtain⟨O,J,I⟩:=h.1 hc
  refine⟨_,_,?_,dB w (ey w.heap b (sl*bA P e) (cI l.toNat z)),I⟩;cases b with
  |none=>
   by_cases m:l.toNat*i.size=0
   ·simp[Builtin.append_,ao (cJ y),ao A,sizeOf,bZ hi,g,x,c,d,hc,m];rfl
   ·simp[Builtin.append_,ao (cJ y),ao A,sizeOf,bZ hi,g,x,c,d,hc,dE hv];rfl
  |some a=>
   have n:=zS (P:=P) J O;rw[j]at n;by_cases m:l.toNat*i.size=0
   ·rw[s m]at n
    simp[Builtin.append_,ao (cJ y),ao A,sizeOf,bZ hi,g,x,c,d,hc,n,ey,j,m,s m]
   ·simp[Builtin.append_,ao (cJ y),ao A,sizeOf,bZ hi,g,x,c,d,hc,n,ey,j,m,dE hv,F]
 ·obtain⟨E,Z,X,G,Q,M,I⟩:=h.2 (by omega)
  rw[hz]at G;cases G;rw[B]at Q M;have S:¬i.bytes=0:=by omega
  have o:¬(281474976710656<Builtin.nextslicecap (sl+l.toNat) f*i.bytes):=by omega
  have T:¬(9223372036854775807:Int)<((sl:Int)+(l.toNat:Int)):=by omega
  have p:¬(9223372036854775807:Int)<((sl:Int)+max l 0):=by omega
  have q:(Builtin.firstCells (bA P e) sl (.slice b sl f)).run P w.drew=.ok E.toArray w.drew:=tC X;rw[j]at q;have N:sl+l.toNat≤(Question.appendCap (sl+l.toNat) f e).cut (w.tape w.drawn (.appendCap (sl+l.toNat) f e)):=Nat.le_add_right _ _;refine⟨_,ik w.drew (hnew w.heap (E++cI l.toNat z++cI ((Question.appendCap (sl+l.toNat) f e).cut (w.tape w.drawn (.appendCap (sl+l.toNat) f e))-(sl+l.toNat)) z) e),?_,⟨rfl,rfl,rfl⟩,I _ N⟩
  have H:(Builtin.zeroCells v.cells ((Question.appendCap (sl+l.toNat) f e).cut (w.tape w.drawn (.appendCap (sl+l.toNat) f e))-(sl+l.toNat)))=(cI ((Question.appendCap (sl+l.toNat) f e).cut (w.tape w.drawn (.appendCap (sl+l.toNat) f e))-(sl+l.toNat)) z).toArray:=by
   apply cj;rw[gZ,D]
  by_cases m:l.toNat*i.size=0
  ·rw[s m]at I⊢
   simp[Builtin.append_,ao (cJ y),ao A,sizeOf,bZ hi,g,x,c,d,hc,p,o,Question.forced,q,dE hv,iy,H,aC,m];rfl
  ·simp[Builtin.append_,ao (cJ y),ao A,sizeOf,bZ hi,g,x,c,d,hc,p,o,Question.forced,q,dE hv,iy,H,aC,m,F];rfl
theorem zE{t u ty:TypeId}{k0:IntKind}{s x:Value}{K:WK}{w:World}(d:P.underlying u=some (.int k0))(h:zF P t s x K w.heap):
  Wv P (Builtin.append_ #[t,u] ty #[s,x]) K w:=by
 unfold zF at h;split at h
 ·rename_i e b sl sc k l ht
  split at h
  ·rename_i z hz
   cases hb:aY z.length (bA P e)with
   |false=>rw[hb]at h;exact h.elim
   |true=>
    rw[hb]at h;obtain⟨⟨f,c,g,i⟩,a⟩:=h;exact GM ht d hz (aI hb) f c g i a
  ·exact h.elim
 ·exact h.elim
theorem jN:∀{a b:List Value},bH a=true→bH b=true→bH (a++b)=true
 | [],_,_,h=>h
 |v::a,b,h,k=>by
  simp only[bH,dt,aV]at h⊢;exact⟨h.1,jN h.2 k⟩
theorem vT{z:List Value}(h:bH z=true):∀n,bH (cI n z)=true
 |0=>rfl
 |n+1=>by
  have:cI (n+1) z=z++cI n z:=by simp[cI,List.replicate_succ]
  rw[this];exact jN h (vT h n)
theorem CP{t ty:TypeId}{x:Value}{K:WK}{w:World}(h:Fx P t x K w.heap):Wv P (Builtin.clear_ #[t] ty #[x]) K w:=by
 unfold Fx at h;split at h
 ·rename_i e a n c ht
  split at h
  ·rename_i z hz
   obtain⟨v,hv,d⟩:=ij hz;cases ho:bH z with
   |false=>rw[ho]at h;exact h.elim
   |true=>
    rw[ho]at h;obtain⟨i,g⟩:=h;refine⟨_,_,?_,dB w (ey w.heap a 0 (cI n z)),g⟩;cases a with
    |none=>simp[Builtin.clear_,ao (cJ ht)];rfl
    |some a=>
     cases n with
     |zero=>simp[Builtin.clear_,ao (cJ ht)];rfl
     |succ n=>
      have b:=zS (P:=P) (vT ho (n+1)) i;rw[←qo,AY]at b;have f:(Builtin.zeroCells v.cells (n+1)).toList=cI (n+1) z:=by rw[gZ,d]
      simp[Builtin.clear_,ao (cJ ht),dE hv,f,b,ey]
  ·exact h.elim
 ·exact h.elim
theorem vU:∀(xs:List Value) (n:Nat),bH xs=true→bH (xs.take n)=true
 | [],n,_=>by simp[bH]
 |x::xs,0,_=>by simp[bH]
 |x::xs,n+1,h=>by
  simp only[bH,aV,List.take_succ_cons]at h⊢;exact⟨h.1,vU xs n h.2⟩
theorem Bo(x:ByteArray):bH (cT x)=true:=by
 have:∀l:List UInt8,bH (l.map fun b=>.int .u8 (b.toNat:Int))=true:=by
  intro l;induction l with
  |nil=>rfl
  |cons b l ih=>simp[bH,ih]
 exact this _
theorem D8{t u ty:TypeId}{d s:Value}{K:WK}{w:World}(h:Jv P t d s K w.heap):Wv P (Builtin.copy_ #[t,u] ty #[d,s]) K w:=by
 unfold Jv at h;split at h
 ·rename_i e b dl dc a sl sc ht
  obtain⟨⟨xs,k,n,o,j⟩,hz⟩:=mG h;refine⟨_,_,?_,dB w (ey w.heap b 0 xs),j⟩;have g:=tC (P:=P) (len:=sl) (cap:=sc) k;cases b with
  |none=>simp[Builtin.copy_,ao (cJ ht),Builtin.lenOf,hz,g,goInt];rfl
  |some c=>
   have f:=zS (P:=P) (m:=0) o n;simp only[Addr.add,if_pos]at f;simp[Builtin.copy_,ao (cJ ht),Builtin.lenOf,hz,g,goInt,f,ey]
 ·rename_i e b dl dc x ht
  cases hb:aY (bA P e) 1 with
  |false=>rw[hb]at h;exact h.elim
  |true=>
   rw[hb]at h;have o:=aI hb;obtain⟨i,hi⟩:=wd (P:=P) (t:=e) (by omega);have hz:(sizeOf e).run P w=.ok (bA P e) w:=by simp[sizeOf,bZ hi,bA,hi]
   obtain⟨n,j⟩:=h;have q:(cT x).length=x.size:=by simp[cT]
   have p:(cT x).take (cP x.size dl)=(cT x).take dl:=by
    by_cases hx:x.size≤dl
    ·rw[show cP x.size dl=x.size from Nat.min_eq_left hx,bh (by omega),bh (by omega)]
    ·rw[show cP x.size dl=dl from Nat.min_eq_right (by omega)]
   have g:(Builtin.firstCells (bA P e) (cP x.size dl) (.string x)).run P w=.ok ((cT x).take dl).toArray w:=by
    rw[yF,p]
   refine⟨_,_,?_,dB w (ey w.heap b 0 ((cT x).take dl)),j⟩;cases b with
   |none=>simp[Builtin.copy_,ao (cJ ht),Builtin.lenOf,hz,g,goInt];rfl
   |some c=>
    have f:=zS (P:=P) (m:=0) (vU _ dl (Bo x)) n;simp only[Addr.add,if_pos]at f;simp[Builtin.copy_,ao (cJ ht),Builtin.lenOf,hz,g,goInt,f,ey]
 ·exact h.elim
theorem Hm(k v:Value)(a:Nat):∀(es:List MapEntry),(match es.findIdx? (fun e=>fI k e.key)with
  |some i=>(es.modify i (fun e=>{e with key:=k,val:=v}),a)
  |none=>(es++ [{key:=k,val:=v,born:=a}],a+1))=F4 k v a es
 | []=>rfl
 |e::es=>by
  have b:=Hm k v a es;simp only[F4,List.findIdx?_cons];cases hk:fI k e.key with
  |true=>simp[List.modify]
  |false=>
   simp only[eh,if_false];rw[←b];cases hf:es.findIdx? (fun e=>fI k e.key)with
   |none=>simp
   |some i=>simp[List.modify]
theorem sQ{d:TypeDesc}{c:CK}(hd:l8 d c)(x:c.den):∀(es:List MapEntry) (i:Nat),Au c es→
  Instr.findNow d (c.enc x) es i=some (match es.findIdx? (fun e=>fI (c.enc x) e.key)with
   |some j=>(es[j]?).map fun e=>(i+j,e.val)
   |none=>none)
 | [],i,_=>rfl
 |e::es,i,h=>by
  obtain⟨y,g⟩:=h e (by simp);have b:=yo hd x y;rw[←g]at b;have f:=sQ hd x es (i+1) fun e' a=>h e' (by simp[a])
  simp only[Instr.findNow,List.findIdx?_cons,b];cases hb:fI (c.enc x) e.key with
  |true=>simp
  |false=>
   simp only[eh,if_false];rw[f];cases hf:es.findIdx? (fun e=>fI (c.enc x) e.key)with
   |none=>simp
   |some j=>simp[qt,Nat.add_comm 1 j]
theorem yY{a b:ByteArray}(h:(a==b)=true):a=b:=by
 cases a with|mk a=>cases b with|mk b=>
 have h:(a==b)=true:=h;rw[eq_of_beq h]
theorem AS(a:ByteArray):(a==a)=true:=by
 cases a with|mk a=>
 exact beq_self_eq_true a
theorem CX{d:TypeDesc}{c:CK}(hd:l8 d c)(x y:c.den)(h:fI (c.enc x) (c.enc y)=true):Instr.sameBits 10000 (c.enc y) (c.enc x)=true:=by
 rcases hd with⟨i,rfl,rfl⟩|⟨rfl,rfl⟩|⟨rfl,rfl⟩
 ·have h:x=y:=eq_of_beq (α:=Int) h
  subst h;have:∀n:Int,(i==i&&n==n)=true:=fun n=>by simp
  exact this x
 ·have h:x=y:=yY h
  subst h;exact AS x
 ·have h:x=y:=eq_of_beq (α:=Bool) h
  subst h;exact beq_self_eq_true (α:=Bool) x
theorem rl{w:World}{r:Nat}{es:Array MapEntry}{a:Nat}{o:Obj}(h:w.heap[r]? =some (.map es a)):(setObj r o).run P w=.ok () (ik w (w.heap.setIfInBounds r o)):=by
 simp only[setObj,Sem.run,h];rfl
theorem Ge{t k e:TypeId}{d:TypeDesc}{c:CK}(A:P.underlying t=some (.map k e))(p:P.underlying k=some d)(hd:l8 d c){r:Nat}{x:c.den}{v:Value}{w:World}(hm:HS c w.heap r):
  (Instr.mapUpdate t (.map (some r)) (c.enc x) v).run P w=.ok () (ik w (LP w.heap r (c.enc x) v)):=by
 obtain⟨es,a,j,f⟩:=hm;obtain⟨q,z,b,C⟩:=ry (P:=P) hd p x f w;rw[sQ hd x es.toList 0 f]at b;have g:=Hm (c.enc x) v a es.toList;have n:LP w.heap r (c.enc x) v=w.heap.setIfInBounds r (.map (F4 (c.enc x) v a es.toList).1.toArray (F4 (c.enc x) v a es.toList).2):=by
  simp only[LP,j]
 rw[n,←g];simp only[Instr.mapUpdate,Sem.run_bind,ao A,Result.andThen_ok,jw j,kL hd p,z];cases hf:es.toList.findIdx? (fun e=>fI (c.enc x) e.key)with
 |none=>
  rw[hf]at b;simp only[bi.injEq]at b;subst b;simp only[rl j];congr 4
  apply cj;simp
 |some i=>
  rw[hf]at b;simp only[bi.injEq]at b;obtain⟨hi,u,_⟩:=List.findIdx?_eq_some_iff_getElem.1 hf;have s:es.toList[i]? =some es.toList[i]:=ag hi;rw[s]at b;simp only[fQ,aD]at b;subst b;have m:es[i]? =some es.toList[i]:=by rw[←aR];exact s
  obtain⟨y,B⟩:=f es.toList[i] (List.getElem_mem hi);have o:Instr.sameBits 10000 (es.toList[i]).key (c.enc x)=true:=by
   rw[B]at u⊢;exact CX hd x y u
  simp only[m,fQ,Option.getD_some,Instr.keyThatStays,o,if_true,Sem.run_bind,Sem.run_pure,Result.andThen_ok,rl j];congr 4
  apply cj;simp
theorem ud{t:TypeId}{m k v:Value}{K:WK}{w:World}(h:y7 P t m k v K w.heap):Wu P (Instr.mapUpdate t m k v) K w:=by
 unfold y7 at h;split at h
 ·rename_i c e m hc
  obtain⟨i,d,f,a,hd⟩:=sL hc;obtain⟨g,rfl,r,rfl,hm,b⟩:=CK.dec_sound h;exact⟨_,Ge f a hd hm,dB _ _,b⟩
 ·exact h.elim
theorem E0(k:Value):∀(es:List MapEntry),(match es.findIdx? (fun e=>fI k e.key)with
  |some i=>es.eraseIdx i
  |none=>es)=E1 k es
 | []=>rfl
 |e::es=>by
  have a:=E0 k es;simp only[E1,List.findIdx?_cons];cases hk:fI k e.key with
  |true=>simp
  |false=>
   simp only[eh,if_false];rw[←a];cases hf:es.findIdx? (fun e=>fI k e.key)<;>simp
theorem EK{t k e ty:TypeId}{ts:Array TypeId}{d:TypeDesc}{c:CK}(y:ts[0]? =some t) (v:P.underlying t=some (.map k e)) (p:P.underlying k=some d) (hd:l8 d c) {r:Nat} {x:c.den} {w:World} (hm:HS c w.heap r):
  (Builtin.delete_ ts ty #[.map (some r),c.enc x]).run P w=.ok (.tuple #[]) (ik w (Hu w.heap r (c.enc x))):=by
 obtain⟨es,f,m,j⟩:=hm;obtain⟨q,u,b,A⟩:=ry (P:=P) hd p x j w;rw[sQ hd x es.toList 0 j]at b;have g:=E0 (c.enc x) es.toList;have o:Hu w.heap r (c.enc x)=w.heap.setIfInBounds r (.map (E1 (c.enc x) es.toList).toArray f):=by
  simp only[Hu,m]
 rw[o,←g];simp only[Builtin.delete_,y,List.getElem?_toArray,List.getElem?_cons_zero,List.getElem?_cons_succ,Sem.run_bind,ao v,Result.andThen_ok,jw m,kL hd p,u];cases hf:es.toList.findIdx? (fun e=>fI (c.enc x) e.key)with
 |none=>
  rw[hf]at b;simp only[bi.injEq]at b;subst b;simp[rl m]
 |some i=>
  rw[hf]at b;simp only[bi.injEq]at b;obtain⟨hi,z,_⟩:=List.findIdx?_eq_some_iff_getElem.1 hf;have s:es.toList[i]? =some es.toList[i]:=ag hi;rw[s]at b;simp only[fQ,aD]at b;subst b;have n:i<es.size:=by simpa using hi
  have a:es.eraseIdxIfInBounds i=(es.toList.eraseIdx i).toArray:=by
   apply cj;simp[Array.eraseIdxIfInBounds,n]
  simp[rl m,a]
theorem zC{t ty:TypeId}{ts:Array TypeId}{m k:Value}{K:WK}{w:World}(g:ts[0]? =some t) (h:zD P t m k K w.heap):Wv P (Builtin.delete_ ts ty #[m,k]) K w:=by
 unfold zD at h;split at h
 ·rename_i c e m hc
  obtain⟨j,d,f,b,hd⟩:=sL hc;obtain⟨i,rfl,h⟩:=CK.dec_sound h;rcases h with⟨rfl,a⟩|⟨r,rfl,hm,a⟩
  ·refine⟨_,w,?_,Tame.refl w,a⟩
   simp[Builtin.delete_,g,ao f,kL hd b]
  ·exact⟨_,_,EK g f b hd hm,dB _ _,a⟩
 ·exact h.elim
theorem Ik{t k e:TypeId}(b:P.underlying t=some (.map k e)){m:Option Nat}{a:Nat}{w:World}(hm:m=none∧a=0∨∃r es,m=some r∧w.heap[r]? =some (.map es a)):
  (Instr.range t (.map m)).run P w=.ok (.pointer (some (aC w.heap))) (ik w (w.heap.push (.mapIter m a #[] a))):=by
 rcases hm with⟨rfl,rfl⟩|⟨r,es,rfl,c⟩
 ·simp only[Instr.range,Sem.run_bind,ao b,Result.andThen_ok,Sem.run_pure,Ab,aC]
 ·simp only[Instr.range,Sem.run_bind,ao b,Result.andThen_ok,Sem.run_pure,jw c,Ab,aC]
theorem sF{w:World}{i:Nat}{m:Option Nat}{a:Nat}{b:Array Nat}{c:Nat}(h:w.heap[i]? =some (.mapIter m a b c)):(getObj i).run P w=.ok (.mapIter m a b c) w:=by
 simp only[getObj,Sem.run,h]
theorem El{w:World}{i:Nat}{m:Option Nat}{a:Nat}{b:Array Nat}{c:Nat}{o:Obj}(h:w.heap[i]? =some (.mapIter m a b c)):(setObj i o).run P w=.ok () (ik w (w.heap.setIfInBounds i o)):=by
 simp only[setObj,Sem.run,h];rfl
theorem AP(n:Nat)(a:0<n)(w:World):∃k w',k<n∧(choose (.mapNext n)).run P w=.ok k w'∧Tame w w'∧w'.heap=w.heap:=by
 unfold choose;simp only[Sem.run];by_cases h:(Question.mapNext n).forced=true
 ·exact⟨0,w,a,by rw[if_pos h],Tame.refl w,rfl⟩
 ·refine⟨(Question.mapNext n).cut (w.tape w.drawn (.mapNext n)),{w with drawn:=w.drawn+1},Nat.mod_lt _ a,by rw[if_neg h],⟨rfl,rfl,rfl⟩,rfl⟩
theorem D7{it:Value}{t:TypeId}{K:WK}{w:World}(h:Ju it K w.heap):Wv P (Instr.next it false t) K w:=by
 unfold Ju at h;split at h
 ·rename_i a
  obtain⟨L,m,i,g,u,hi,h⟩:=h;obtain⟨b,off,M⟩:=a;simp only at L hi h;subst L;rcases h with⟨rfl,S⟩|⟨r,es,z,rfl,N,C,E,G⟩
  ·exact⟨_,w,by simp only[Instr.next,Sem.run_bind,sF hi,Result.andThen_ok,Sem.run_pure],Tame.refl w,S⟩
  ·have v:(!g.isEmpty&& !es.isEmpty&&es.all (fun e=>decide (e.born≥u)))=false:=by
    rcases C with h|h|h<;>simp[h]
   obtain⟨left,n⟩:∃left,left=es.filter fun e=> !g.contains e.born:=⟨_,rfl⟩
   obtain⟨j,q⟩:∃j,j=left.filter (·.born<i):=⟨_,rfl⟩
   obtain⟨new,hnew⟩:∃new,new=left.filter (·.born≥i):=⟨_,rfl⟩
   obtain⟨d,f⟩:∃d:Array (Option MapEntry),d=(if j.isEmpty then #[none]else #[])++(j++new).map some:=⟨_,rfl⟩
   have D:0<d.size:=by
    rw[f];by_cases A:j.isEmpty=true
    ·simp[A];omega
    ·have:j.size≠0:=by simpa using A
     simp[A];omega
   obtain⟨k,F,Q,y,O,J⟩:=AP (P:=P) d.size D w;obtain⟨c,hc⟩:∃c,d[k]? =some c:=⟨d[k],Array.getElem?_eq_getElem Q⟩;have I:F.heap[b]? =some (.mapIter (some r) i g u):=by rw[J];exact hi
   have p:(!g.isEmpty&& !es.isEmpty&&es.all fun x=>decide (x.born≥u))=false:=v
   cases c with
   |none=>
    refine⟨.tuple #[.bool false],F,?_,O,?_⟩
    ·simp only[Instr.next,Sem.run_bind,sF hi,Result.andThen_ok,Sem.run_pure,jw N,p,eh,if_false,←n,←q,←hnew,←f,y,hc]
    ·rw[J]
     have s:j.isEmpty=true:=by
      have hm:none∈d:=mA hc;rw[f]at hm;by_cases A:j.isEmpty=true
      ·exact A
      ·simp[A]at hm
     refine E fun e R H=>?_
     cases hs:g.contains e.born with
     |true=>rfl
     |false=>
      have o:e∈j:=by
       rw[q,n];simp only[mS];exact⟨⟨by simpa using R,by rw[hs];rfl⟩,by simpa using H⟩
      rw[Array.isEmpty_iff]at s;rw[s]at o;simp at o
   |some e=>
    have o:e∈es∧g.contains e.born=false:=by
     have hm:some e∈d:=mA hc;have B:e∈left:=by
      rw[f]at hm;rw[Array.mem_append]at hm;rcases hm with hm|hm
      ·split at hm<;>simp at hm
      ·simp only[Array.mem_map,bi.injEq,exists_eq_right,Array.mem_append]at hm
       rcases hm with hm|hm
       ·rw[q]at hm;exact(mS.1 hm).1
       ·rw[hnew]at hm;exact(mS.1 hm).1
     rw[n]at B;have:=mS.1 B;exact⟨this.1,by simpa using this.2⟩
    refine⟨.tuple #[.bool true,e.key,e.val],ik F (F.heap.setIfInBounds b (.mapIter (some r) i (g.push e.born) z)),?_,O.trans (dB _ _),?_⟩
    ·simp only[Instr.next,Sem.run_bind,sF hi,Result.andThen_ok,Sem.run_pure,jw N,p,eh,if_false,←n,←q,←hnew,←f,y,hc,El I]
    ·rw[J]
     exact G e (by simpa using o.1) o.2
 ·exact h.elim
theorem Bq{t e:TypeId}{z:List Value}{k k':IntKind}{l c:Int}{w:World}(s:rU P t=some e)(hz:nz P e=some z)(f:z.length=bA P e)(y:0≤l)(C:l≤c)(A:c≤9223372036854775807)(B:nD P e*c≤2^48):
  (Instr.makeSlice t (.int k l) (.int k' c)).run P w=.ok (.slice (some (aC w.heap)) l.toNat c.toNat) (ik w (hnew w.heap (cI c.toNat z) e)):=by
 obtain⟨v,hv,b⟩:=ij hz;obtain⟨i,hi,x⟩:=nZ hv;have g:bA P e=i.size:=by simp[bA,hi]
 have o:nD P e=i.bytes:=by simp[nD,hi]
 have n:v.cells.size=i.size:=by rw[←g,←f,←b];simp
 have p:=xi y (by omega);have hc:=xi (show 0≤c by omega) A
 rw[o]at B;have c1:¬(c<0):=by omega
 have c2:¬(281474976710656<(i.bytes:Int)*c):=by omega
 have q:¬(l<0):=by omega
 have u:¬(c<l):=by omega
 by_cases a:c.toNat*i.size=0
 ·have m:(cI c.toNat z).length=0:=by simp[cI,f,g,a]
  rw[bC.1 m];simp[Instr.makeSlice,ao (cJ s),asInt,asIntOf,bZ hi,p,hc,c1,c2,q,u,sizeOf,a,iy]
 ·have d:((Array.range (c.toNat*i.size)).map (fun j=>v.cells[j%v.cells.size]!))=(cI c.toNat z).toArray:=by
   rw[←n,G8,b]
  have key:(newRow e ((Array.range (c.toNat*i.size)).map (fun j=>v.cells[j%v.cells.size]!))).run P w=.ok (aC w.heap) (ik w (hnew w.heap (cI c.toNat z) e)):=by
   rw[d,iy]
  simp[Instr.makeSlice,ao (cJ s),asInt,asIntOf,bZ hi,p,hc,c1,c2,q,u,sizeOf,a,dE hv];rw[key];rfl
theorem Agree.args{N:Nat}{r:bP}{a:Act}(h:Agree N r a){os:Array Operand}{vs:List Value}(hv:lg r os.toList=some vs):os.map a.eval=vs.toArray:=by
 rw[←jL h hv];apply cj;simp
theorem HC.out{f:FuncId}{args:List Value}{ks:List Kind}{K:WK}{w:World}(h:HC P f args ks (fun x h'=>K (yS ks (ki ks x)) h') w.heap):E8 P (callFunc f args.toArray) K w:=by
 rcases h.run w rfl with⟨a,d⟩|⟨v,w',a,c,x,rfl,b⟩
 ·refine .inr (.inr (.inl ⟨f,args.toArray,a,d.mono ?_⟩))
  rintro e w' ⟨c,x,rfl,b⟩;exact⟨c,_,rfl,b⟩
 ·exact .inl ⟨_,w',a,c,b⟩
theorem IX{b a e:TypeId}{s:ByteArray}{w:World}(k:P.underlying b=some .string)(hd:P.underlying a=some (.slice e))(g:P.underlying e=some (.int .u8)):
  ∃c,s.size≤c∧(convert b a (.string s)).run P w=.ok (.slice (some (aC w.heap)) s.size c) (ik w.drew (w.heap.push (.cells (cT s++gi (c-s.size) (Value.int .u8 0)).toArray e (c,c+1)))):=by
 have f:s.size≤grownCap w s.size 0 e:=Nat.le_add_right _ _;refine⟨_,f,?_⟩;rw[Go.Lib.run_convert_string_bytes w b a e s k hd g];have hc:(Go.Lib.bytesCells w e s).size=grownCap w s.size 0 e:=by
  unfold Go.Lib.bytesCells;rw[Array.size_append,Array.size_map,Array.size_replicate,show s.data.size=s.size from rfl]
  omega
 have d:(cT s++gi (grownCap w s.size 0 e-s.size) (Value.int .u8 0)).toArray=Go.Lib.bytesCells w e s:=by
  unfold Go.Lib.bytesCells cT;apply cj;simp
 rw[d];unfold Go.Lib.bytesWorld World.freeze;rw[if_neg (by omega),hc];unfold World.alloc World.drew ik;congr 1
 congr 1
 apply Array.ext (by simp);intro i m j;rw[Array.getElem_modify];simp only[Array.getElem_push];split
 ·rename_i e
  subst e;simp
 ·rename_i e
  have hi:i<w.heap.size:=by simp at j;omega
  rw[dif_pos hi,dif_pos hi]
theorem xk{o:Oper}{r:bP}{K:WK}{w:World}{N:Nat}{a:Act}(G:Agree N r a)(j:Bh P o r K w.heap):E8 P (execOp a.eval o) K w:=by
 have A:∀{x:Operand} {v:Value},cA r x=some v→a.eval x=v:=fun h=>im G h
 obtain⟨O,Y,type,lh,D,E⟩:=o;cases Y with
 |alloc t=>
  simp only[Bh]at j;split at j
  ·rename_i z hz
   obtain⟨v,hv,S⟩:=ij hz;have C:(Instr.alloc t true (.tuple #[])).run P w=.ok (.pointer (some (aC w.heap))) (ik w (hnew w.heap z t)):=by
    simp[Instr.alloc,dE hv,newVar,iy,S]
   exact Wv.out ⟨_,_,C,dB _ _,j⟩
  ·exact j.elim
 |box t x=>
  simp only[Bh]at j;split at j
  ·rename_i v hv
   have C:(Instr.box t v).run P w=.ok (.pointer (some (aC w.heap))) (ik w (hnew w.heap v.cells.toList t)):=by
    simp[Instr.box,newVar,iy]
   simp only[execOp,A hv];exact Wv.out ⟨_,_,C,dB _ _,j⟩
  ·exact j.elim
 |build t ps=>
  simp only[Bh]at j;split at j
  ·rename_i vs p
   split at j
   ·rename_i cs hcs
    have L:(ps.map fun x=>(x.1,a.eval x.2))=vs.toArray:=by
     rw[←lP G p];apply cj;simp
    have C:=wy (ps:=vs.toArray) (by simpa using hcs) w;simp only[execOp];rw[show(ps.map fun(i,x)=>(i,a.eval x))=vs.toArray from L]
    exact Wv.out ⟨_,w,C,Tame.refl w,j⟩
   ·exact j.elim
  ·exact j.elim
 |buildSlice t n ps=>
  simp only[Bh]at j;split at j
  ·rename_i e vs F p
   split at j
   ·rename_i z hz
    cases hb:(tN (n*bA P e) 16777216&&aY z.length (bA P e))with
    |false=>rw[hb]at j;exact j.elim
    |true=>
     rw[hb]at j;simp only[aV]at hb;simp only[cond_true]at j;split at j
     ·rename_i cs hcs
      have L:(ps.map fun x=>(x.1,a.eval x.2))=vs.toArray:=by
       rw[←lP G p];apply cj;simp
      have C:=xJ (ps:=vs.toArray) F hz (gp hb.1) (aI hb.2) (by simpa using hcs) w;simp only[execOp];rw[show(ps.map fun(i,x)=>(i,a.eval x))=vs.toArray from L]
      exact Wv.out ⟨_,_,C,dB _ _,j⟩
     ·exact j.elim
   ·exact j.elim
  ·exact j.elim
 |store t x y=>
  simp only[Bh]at j;split at j
  ·rename_i b v hb hv
   simp only[execOp,A hb,A hv];exact Wu.out (CO j)
  ·exact j.elim
 |mapUpdate t m k x=>
  simp only[Bh]at j;split at j
  ·rename_i mv kv xv hm B hx
   simp only[execOp,A hm,A B,A hx];exact Wu.out (ud j)
  ·exact j.elim
 |insert t m k x=>
  simp only[Bh]at j;split at j
  ·rename_i mv kv xv hm B hx
   simp only[execOp,A hm,A B,A hx];exact Wu.out (ud j)
  ·exact j.elim
 |makeMap t n=>
  simp only[Bh]at j;cases n with
  |none=>exact Wv.out ⟨_,ik w (w.heap.push (.map #[] 0)),by simp[Instr.makeMap];rfl,dB _ _,j⟩
  |some n=>
   simp only at j;split at j
   ·rename_i k i hn F
    exact Wv.out ⟨_,ik w (w.heap.push (.map #[] 0)),by simp[Instr.makeMap,A hn,ao F,asInt,asIntOf];rfl,dB _ _,j⟩
   ·exact j.elim
 |makeSlice t l c=>
  simp only[Bh]at j;split at j
  ·rename_i e k l' k' c' F T hc
   split at j
   ·rename_i z hz
    cases hb:aY z.length (bA P e)with
    |false=>rw[hb]at j;exact j.elim
    |true=>
     rw[hb]at j;obtain⟨⟨W,M,Q,X⟩,j⟩:=j;simp only[execOp,A T,A hc];exact Wv.out ⟨_,_,Bq F hz (aI hb) W M Q X,dB _ _,j⟩
   ·exact j.elim
  ·exact j.elim
 |convert s d x=>
  simp only[Bh]at j;split at j
  ·rename_i e v R hd hx
   cases hu:Gm P e with
   |false=>rw[hu]at j;exact j.elim
   |true=>
    rw[hu]at j;obtain⟨c,hc,I⟩:=IX (w:=w) (s:=v) R hd (Av hu);simp only[execOp,A hx];exact Wv.out ⟨_,_,I,⟨rfl,rfl,rfl⟩,j c hc⟩
  ·exact j.elim
 |range t x=>
  simp only[Bh]at j;split at j
  ·rename_i k e m hu hx
   obtain⟨J,hm,j⟩:=j;simp only[execOp,A hx];exact Wv.out ⟨_,_,Ik hu hm,dB _ _,j⟩
  ·exact j.elim
 |next it isS=>
  cases isS with
  |true=>simp only[Bh]at j
  |false=>
   simp only[Bh]at j;split at j
   ·rename_i v hv
    simp only[execOp,A hv];exact Wv.out (D7 j)
   ·exact j.elim
 |call c=>
  simp only[Bh]at j;have eb:∀{b:Builtin} {vs:List Value},c.callee=.builtin b→lg r c.args.toList=some vs→∃cs:Array Bool,∀w,(execOp a.eval ⟨O,.call c,type,lh,D,E⟩).run P w=
    (builtin b c.argTypes type cs vs.toArray).run P w:=by
   intro b vs hc p;refine⟨c.args.map fun| .const _=>true|_=>false,fun w=>?_⟩
   simp[execOp,resolve,hc,G.args p,invoke];rfl
  have wo:∀{s s':Sem Next},(∀w,s.run P w=s'.run P w)→E8 P s' K w→E8 P s K w:=by
   intro s s' C h;unfold E8 at h⊢;simp only[C];exact h
  split at j
  ·rename_i s x hc p
   split at j
   ·rename_i t u hat
    obtain⟨cs,H⟩:=eb hc p;refine wo H ?_;have q:c.argTypes= #[t,u]:=by apply cj;rw[hat]
    simp only[builtin,q];split at j
    ·rename_i e' hu;exact Wv.out (ue (.inl ⟨e',hu⟩) j)
    ·rename_i hu;exact Wv.out (ue (.inr hu) j)
    ·rename_i k0 hu;exact Wv.out (zE hu j)
    ·exact j.elim
   ·exact j.elim
  ·rename_i x hc p
   split at j
   ·rename_i t hat
    obtain⟨cs,H⟩:=eb hc p;refine wo H ?_;have q:c.argTypes= #[t]:=by apply cj;rw[hat]
    simp only[builtin,q];exact Wv.out (CP j)
   ·exact j.elim
  ·rename_i s x hc p
   split at j
   ·rename_i t u hat
    obtain⟨cs,H⟩:=eb hc p;refine wo H ?_;have q:c.argTypes= #[t,u]:=by apply cj;rw[hat]
    simp only[builtin,q];exact Wv.out (D8 j)
   ·exact j.elim
  ·rename_i m k hc p
   split at j
   ·rename_i t u hat
    obtain⟨cs,H⟩:=eb hc p;refine wo H ?_;simp only[builtin];exact Wv.out (zC (by rw[←aR,hat];rfl) j)
   ·exact j.elim
  ·rename_i f args hc p
   unfold Mc at j;split at j
   ·exact j.elim
   ·rename_i ks hks
    split at j
    ·rename_i f
     refine wo (s':=callFunc f args.toArray) (fun w=>?_) j.out
     simp[execOp,resolve,hc,G.args p,Act.eval,Deferred.ofValue,invoke]
    ·rename_i f hf
     split at j
     ·rename_i fv hfv
      rcases j.run with⟨g,first,cap,rfl,V⟩|⟨l,rfl,V⟩
      rotate_left
      ·obtain⟨fn,tmps,assign,body,M,Q⟩:=V.run w rfl
       refine .inr (.inr (.inr ⟨l,fn,tmps,assign,body,?_,fun c cs=>?_⟩))
       ·rw[←M]
        simp[execOp,resolve,hc,G.args p,A hfv,Deferred.ofValue,invoke]
       ·obtain⟨b,w',F,B,R⟩:=Q c cs
        refine⟨b,w',F,?_,R⟩;obtain⟨t,e,B⟩:=oQ B;have T:ks.length=1:=by rw[←pD ks t,←e];rfl
        match ks,T,t,e,B with
        | [k],_,t,e,B=>rw[←e]at B;exact B
      refine wo (s':=callFunc g (first.toList++args++cap.toList).toArray) (fun w=>?_) V.out
      have e:first++args.toArray++cap=(first.toList++args++cap.toList).toArray:=by apply cj;simp
      rw[←e];simp[execOp,resolve,hc,G.args p,A hfv,Deferred.ofValue,invoke]
     ·exact j.elim
  ·exact j.elim
 |_=>simp only[Bh]at j
end Go.Lift
