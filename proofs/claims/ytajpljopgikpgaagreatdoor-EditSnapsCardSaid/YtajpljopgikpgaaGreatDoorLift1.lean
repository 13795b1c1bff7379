/- A part of the proof that the named laws of this program answer true, whatever the input. -/
import Derived.Test.YtajpljopgikpgaaGreatDoorLift0
import Derived.Laws.Append
import Derived.Laws.Cover3
import Derived.Laws.StructEq
import Derived.Laws.BytesString
import Derived.Lib.ConvBytes
open Array renaming ext'→cj,getElem?_toList→aR,mem_of_getElem?→mA,mem_filter→mS
open Bool renaming and_eq_true→aV,false_eq_true→eh
open ByteArray renaming data_extract→mp
open List renaming extract_eq_take_drop→ff,map_cons→eI,take_of_length_le→bh,length_cons→aO,cons_append→dt,replicate→gi,length_eq_zero_iff→bC,getElem?_eq_getElem→ag
open Nat renaming beq→aY,add_assoc→qt,ble→tN,eq_of_beq_eq_true→aI,le_of_ble_eq_true→gp,add_zero→dL,zero_add→aD,min→cP
open Option renaming some→bi,isSome_iff_exists→cN,map_some→fQ
open Prod renaming mk→p8
open UInt8 renaming ofNat→eX
namespace Go.Lift
open Go
def Li(S:Option (ad→Prop))(h:ad):Prop:=match S with|none=>True|some f=>f h
def Yv(P:Program)(s:Sem Value)(K:RK)(h:ad):Prop:=∃v S,K v S∧Li S h∧∀w:World,Li S w.heap→s.run P w=.ok v w
theorem Yv.of_pure{P:Program}{s:Sem Value}{K:RK}{h:ad}{v:Value}(b:K v none)(a:∀w:World,s.run P w=.ok v w):Yv P s K h:=
 ⟨v,none,b,trivial,fun w _=>a w⟩
variable {P:Program}
theorem sR{t:TypeId}{f:Nat}{u:TypeId}{off:Nat}(h:sS P t f=some (u,off)):
  ∃fs g,P.underlying t=some (.struct fs)∧fs[f]? =some g∧g.type=u∧g.offset=off:=by
 unfold sS at h;split at h
 ·rename_i fs hu
  split at h
  ·rename_i g hg
   simp only[bi.injEq,p8.injEq]at h;exact⟨fs,g,hu,by simpa using hg,h.1,h.2⟩
  ·cases h
 ·cases h
theorem uL{t:TypeId}(h:aY (bA P t) 0=false)(w:World):(sizeOf t).run P w=.ok (bA P t) w:=by
 unfold bA at h⊢;cases hi:P.info? t with
 |none=>rw[hi]at h;cases h
 |some i=>simp[sizeOf,bZ hi]
theorem yW{t:TypeId}{f:Nat}{u:TypeId}{off:Nat}{a:Addr}{K:RK}{h:ad}(j:sS P t f=some (u,off))
  (b:bif aY (bA P u) 0 then False else K (.pointer (some (adr a off))) none):Yv P (Instr.fieldAt t (.pointer (some a)) f) K h:=by
 obtain⟨k,g,d,i,rfl,rfl⟩:=sR j;cases hz:aY (bA P g.type) 0 with
 |true=>rw[hz]at b;exact b.elim
 |false=>
  rw[hz]at b;refine .of_pure b fun w=>?_
  have c:bA P g.type≠0:=fun e=>by rw[e]at hz;cases hz
  simp only[Instr.fieldAt,Sem.run_bind,ao d,Result.andThen_ok,i,Instr.sureAddr,Sem.run_pure,fieldPlace,uL hz];simp[c,qo]
theorem rH{t:TypeId}{i:TypeInfo}(_:P.info? t=some i)(a:∃d,P.underlying t=some d)(w:World):(isAgg t).run P w=.ok (rI P t) w:=by
 obtain⟨d,hd⟩:=a;simp only[isAgg,Sem.run_bind,ao hd,Result.andThen_ok];unfold rI;rw[hd];cases d<;>rfl
theorem vP{c:BinOp}{k k':IntKind}{a b:Int}{K:RK}{h:ad}(f:c=.shl∨c=.shr)(hv:FH c k a b K):Yv P (Op.shift c k a k' b) K h:=by
 rcases f with rfl|rfl
 ·obtain⟨d,e⟩:=hv
  refine .of_pure e fun w=>?_
  simp[Op.shift,Int.not_lt.2 d]
 ·obtain⟨d,e⟩:=hv
  refine .of_pure e fun w=>?_
  simp[Op.shift,Int.not_lt.2 d]
theorem Gq{c:BinOp}{k:IntKind}{a b:Int}{K:RK}{h:ad}(hv:M5 c k a b K)(f:c≠ .shl∧c≠ .shr):Yv P (binOp c 0 (.int k a) (.int k b)) K h:=by
 cases c<;>simp only[M5]at hv
 case quo=>obtain⟨d,e⟩:=hv;exact .of_pure e fun w=>by simp[binOp,Op.intDiv,d]
 case rem=>obtain⟨d,e⟩:=hv;exact .of_pure e fun w=>by simp[binOp,Op.intDiv,d]
 all_goals exact .of_pure hv fun w=>by simp[binOp,Op.intArith,Op.intBits,Op.intCmp]
theorem AU(c:BinOp)(t:TypeId)(k k':IntKind)(a b:Int):binOp c t (.int k a) (.int k' b)=binOp c 0 (.int k a) (.int k' b):=by
 cases c<;>rfl
theorem FF{c:BinOp}{t:TypeId}{a b:ByteArray}{K:RK}{h:ad}(hv:MN c a b K):Yv P (binOp c t (.string a) (.string b)) K h:=by
 cases c<;>simp only[MN]at hv
 case add=>
  obtain⟨e,d⟩:=hv;refine .of_pure d fun w=>?_
  have:¬(((a.size+b.size:Nat):Int)>IntKind.i64.max):=by
   have:IntKind.i64.max=9223372036854775807:=by decide
   omega
  simp only[binOp,Op.stringOp,if_neg this,Sem.run_pure]
 all_goals exact .of_pure hv fun w=>by simp[binOp,Op.stringOp]
theorem nn{t:TypeId}{x y:Value}{b:Bool}{w:World}(h:∀d,(Op.equalIn (d+1) t x y).run P w=.ok b w):(Op.equal t x y).run P w=.ok b w:=h 9999
theorem AF{t:TypeId}{e:TypeId}(b:P.underlying t=some (.pointer e))(a:Option Addr)(w:World):(Op.equal t (.pointer a) (.pointer none)).run P w=.ok a.isNone w:=by
 refine nn fun d=>?_
 simp only[Op.equalIn,Sem.run_bind,ao b,Result.andThen_ok];cases a<;>rfl
theorem GC(e:BinOp)(t:TypeId)(x y:Operand)(a b:Value)(h:∀c d,a=.agg c→b=.agg d→False)(hi:a=.nilIface→b=.nilIface→False)(w:World):
  (eqGuard e t x y a b).run P w=.ok () w:=by
 cases e;case eql=>cases a<;>cases b<;>first|rfl|exact(hi rfl rfl).elim|exact(h _ _ rfl rfl).elim
 case neq=>cases a<;>cases b<;>first|rfl|exact(hi rfl rfl).elim|exact(h _ _ rfl rfl).elim
 all_goals rfl
theorem I7(t:TypeId)(x y:Value)(hx:∀k a,x≠ .int k a)(c:∀s,x≠ .string s)(d:∀k a,x≠ .float k a)(hc:∀k a b,x≠ .complex k a b):binOp .eql t x y=(do pure (.bool (←Op.equal t x y))):=by
 cases x<;>first|rfl|exact absurd rfl (hx _ _)|exact absurd rfl (c _)|exact absurd rfl (d _ _)|exact absurd rfl (hc _ _ _)
theorem I6(t:TypeId)(x y:Value)(hx:∀k a,x≠ .int k a)(c:∀s,x≠ .string s)(d:∀k a,x≠ .float k a)(hc:∀k a b,x≠ .complex k a b):binOp .neq t x y=(do pure (.bool (!(←Op.equal t x y)))):=by
 cases x<;>first|rfl|exact absurd rfl (hx _ _)|exact absurd rfl (c _)|exact absurd rfl (d _ _)|exact absurd rfl (hc _ _ _)
theorem np{t:TypeId}{neg:Bool}{x y:Value}{b:Bool}{w:World}(c:(Op.equal t x y).run P w=.ok b w)
  (hx:∀k a,x≠ .int k a)(d:∀s,x≠ .string s)(e:∀k a,x≠ .float k a)(hc:∀k a b,x≠ .complex k a b):
  (binOp (bif neg then .neq else .eql) t x y).run P w=.ok (.bool (bif neg then !b else b)) w:=by
 cases neg
 ·simp only[cond_false,I7 t x y hx d e hc,Sem.run_bind,c,Result.andThen_ok,Sem.run_pure]
 ·simp only[cond_true,I6 t x y hx d e hc,Sem.run_bind,c,Result.andThen_ok,Sem.run_pure]
theorem Al{t:TypeId}{neg:Bool}{x y:Value}{K:RK}{h:ad}(hv:LP P t neg x y K):
  (∀c d,x=.agg c→y=.agg d→False)∧(x=.nilIface→y=.nilIface→False)∧Yv P (binOp (bif neg then .neq else .eql) t x y) K h:=by
 unfold LP at hv;split at hv
 ·rename_i e a hu
  refine⟨nofun,nofun,.of_pure hv fun w=>?_⟩
  exact np (AF hu a w) nofun nofun nofun nofun
 ·rename_i k e a hu
  refine⟨nofun,nofun,.of_pure hv fun w=>?_⟩
  refine np ?_ nofun nofun nofun nofun;refine nn fun d=>?_
  simp only[Op.equalIn,Sem.run_bind,ao hu,Result.andThen_ok];cases a<;>rfl
 ·rename_i e a _ _ _ _ hu
  refine⟨nofun,nofun,.of_pure hv fun w=>?_⟩
  refine np ?_ nofun nofun nofun nofun;refine nn fun d=>?_
  simp only[Op.equalIn,Sem.run_bind,ao hu,Result.andThen_ok];cases a<;>rfl
 ·exact hv.elim
theorem sD{w:World}{a b:Addr}(f:du w.heap a)(d:du w.heap b):(sameAddr a b).run P w=.ok (a==b) w:=by
 obtain⟨i,j,f,t⟩:=f;obtain⟨cb,eb,d,sb⟩:=d;by_cases c:a.block=b.block
 ·simp[sameAddr,c]
 ·have g:(a==b)=false:=by
   rw[beq_eq_false_iff_ne];intro e;exact c (by rw[e])
  have s1:w.shape? a.block=some (j,i.size):=by simp[World.shape?,f]
  have s2:w.shape? b.block=some (eb,cb.size):=by simp[World.shape?,d]
  have p:∀n,w.frozen? ({block:=a.block,off:=n}:Addr)=false:=fun n=>by simp[World.frozen?,f]
  have q:∀n,w.frozen? ({block:=b.block,off:=n}:Addr)=false:=fun n=>by simp[World.frozen?,d]
  have s:w.frozen? a=false:=by simp[World.frozen?,f]
  have k:w.frozen? b=false:=by simp[World.frozen?,d]
  obtain⟨m,hm⟩:∃m,i.size=m+1:=⟨i.size-1,by omega⟩
  obtain⟨n,o⟩:∃n,cb.size=n+1:=⟨cb.size-1,by omega⟩
  simp[sameAddr,c,noView,viewAt,mayBeOne,stringish,s1,s2,p,q,s,k,hm,o,g]
theorem xE{t:TypeId}{neg:Bool}{x y:Value}{K:RK}{h:ad}(hv:Ms P t neg x y K h):
  (∀c d,x=.agg c→y=.agg d→False)∧(x=.nilIface→y=.nilIface→False)∧Yv P (binOp (bif neg then .neq else .eql) t x y) K h:=by
 unfold Ms at hv;split at hv
 ·rename_i a b hu
  refine⟨nofun,nofun,.of_pure hv fun w=>?_⟩
  refine np ?_ nofun nofun nofun nofun;refine nn fun d=>?_
  simp only[Op.equalIn,Sem.run_bind,ao hu,Result.andThen_ok,Sem.run_pure]
 ·rename_i e a b hu
  obtain⟨hz,i,j⟩:=hv;refine⟨nofun,nofun,_,_,j,i,fun w m=>?_⟩
  refine np ?_ nofun nofun nofun nofun;have f:aY (bA P e) 0=false:=by
   cases hb:aY (bA P e) 0 with
   |false=>rfl
   |true=>rw[hb]at hz;exact hz.elim
  have g:bA P e≠0:=fun e=>by rw[e]at f;cases f
  refine nn fun d=>?_
  simp only[Op.equalIn,Sem.run_bind,ao hu,Result.andThen_ok];cases a with
  |none=>cases b<;>rfl
  |some a=>cases b with
   |none=>rfl
   |some b=>
    obtain⟨k,n⟩:=m a b rfl rfl;simp only[Sem.run_bind,uL f,Result.andThen_ok,ne_eq,g,not_false_eq_true,if_true,sD k n];rfl
 ·exact hv.elim
theorem F4{e:BinOp}{t:TypeId}{x y:Value}{K:RK}{h:ad}(hv:MU P e t x y K h):
  (∀c d,x=.agg c→y=.agg d→False)∧(x=.nilIface→y=.nilIface→False)∧Yv P (binOp e t x y) K h:=by
 unfold MU at hv;split at hv
 ·rename_i k a k' b
  refine⟨nofun,nofun,?_⟩;rw[AU];split at hv
  ·exact vP (k':=k') (.inl rfl) hv
  ·exact vP (k':=k') (.inr rfl) hv
  ·rename_i h1 h2
   cases hk:Dm k' k with
   |false=>rw[hk]at hv;exact hv.elim
   |true=>rw[hk]at hv;have:=wc hk;subst this;exact Gq hv ⟨h1,h2⟩
 ·exact⟨nofun,nofun,FF hv⟩
 ·split at hv
  ·exact xE (neg:=false) hv
  ·exact xE (neg:=true) hv
  ·exact hv.elim
theorem ED{u:TypeId}{cs:List Value}{off:Nat}(a:((P.underlying u).isSome&&(P.info? u).isSome)=true){w:World}(b:rI P u=true):
  (part u cs.toArray off).run P w=.ok (.agg ((cs.drop off).take (bA P u)).toArray) w:=by
 simp only[aV,cN]at a;obtain⟨a,i,hi⟩:=a;have c:(sizeOf u).run P w=.ok (bA P u) w:=by simp[sizeOf,bZ hi,bA,hi]
 simp only[part,Sem.run_bind,rH hi a,Result.andThen_ok,b,if_true,c,Sem.run_pure];congr 2
 apply cj;simp[ff]
theorem Ci{u:TypeId}{cs:List Value}{off:Nat}(a:((P.underlying u).isSome&&(P.info? u).isSome)=true){w:World}(c:rI P u=false){v:Value}(hc:cs[off]? =some v):
  (part u cs.toArray off).run P w=.ok v w:=by
 simp only[aV,cN]at a;obtain⟨a,i,hi⟩:=a;have b:cs.toArray[off]? =some v:=by simpa using hc
 simp only[part,Sem.run_bind,rH hi a,Result.andThen_ok,c,eh,if_false,b,Sem.run_pure]
theorem uR{h:ad}:∀{l m:List (Option Addr×Option Addr)},oF h (l++m)→oF h l∧oF h m
 | [],_,h=>⟨trivial,h⟩
 |(_,_)::_,_,h=>⟨⟨h.1,(uR h.2).1⟩,(uR h.2).2⟩
theorem EY{t:TypeId}{x y:Value}{b:Bool}{l:List (Option Addr×Option Addr)}(f:Kv P t x y=some (b,l)){w:World}(i:oF w.heap l)(d:Nat):
  (Op.equalIn (d+1) t x y).run P w=.ok b w:=by
 unfold Kv at f;split at f
 ·rename_i k0 k a k' c hu
  cases hk:Dm k' k with
  |false=>rw[hk]at f;cases f
  |true=>
   rw[hk]at f;have:=wc hk;subst this;cases f;exact run_equalIn_int w d t _ _ _ _ hu
 ·rename_i a c hu
  cases f;exact run_equalIn_bool w d t _ _ hu
 ·rename_i a c hu
  cases f;exact run_equalIn_string w d t _ _ hu
 ·rename_i e a c hu
  cases hz:aY (bA P e) 0 with
  |true=>rw[hz]at f;cases f
  |false=>
   rw[hz]at f;cases f;have g:bA P e≠0:=fun e=>by rw[e]at hz;cases hz
   simp only[Op.equalIn,Sem.run_bind,ao hu,Result.andThen_ok];cases a with
   |none=>cases c<;>rfl
   |some a=>cases c with
    |none=>rfl
    |some c=>
     obtain⟨j,m⟩:=i.1 a c rfl rfl;simp only[Sem.run_bind,uL hz,Result.andThen_ok,ne_eq,g,not_false_eq_true,if_true,sD j m];rfl
 ·cases f
theorem AG{rec:TypeId→List Value→List Value→Option (Bool×List (Option Addr×Option Addr))}{d:Nat}{xs ys:List Value}{w:World}
  (e:∀t us vs b l,rec t us vs=some (b,l)→oF w.heap l→(Op.equalIn (d+1) t (.agg us.toArray) (.agg vs.toArray)).run P w=.ok b w):
  ∀(fs:List Field) (b:Bool) (l:List (Option Addr×Option Addr)),L3 P rec xs ys fs=some (b,l)→oF w.heap l→(Op.eqFields (d+1) xs.toArray ys.toArray fs).run P w=.ok b w
 | [],b,l,he,_=>by cases he;rfl
 |f::fs,b,l,he,hp=>by
  unfold L3 at he;split at he
  ·cases he
  ·rename_i hn
   cases hi:((P.underlying f.type).isSome&&(P.info? f.type).isSome)with
   |false=>rw[hi]at he;cases he
   |true=>
    rw[hi]at he;simp only[cond_true]at he;split at he
    ·rename_i b1 l1 c m e1 e2
     cases he;obtain⟨p1,j⟩:=uR hp;have a:=AG e fs c m e2 j;have i:∃u v,(part f.type xs.toArray f.offset).run P w=.ok u w∧(part f.type ys.toArray f.offset).run P w=.ok v w∧(Op.equalIn (d+1) f.type u v).run P w=.ok b1 w:=by
      cases ha:rI P f.type with
      |true=>
       rw[ha]at e1;exact⟨_,_,ED hi ha,ED hi ha,e _ _ _ _ _ e1 p1⟩
      |false=>
       rw[ha]at e1;simp only[cond_false]at e1;split at e1
       ·rename_i x y hx hy
        exact⟨x,y,Ci hi ha hx,Ci hi ha hy,EY e1 p1 d⟩
       ·cases e1
     obtain⟨u,v,n,k,g⟩:=i;simp only[Op.eqFields,ne_eq,hn,not_false_eq_true,if_true,Sem.run_bind,n,k,g,Result.andThen_ok];cases b1
     ·rfl
     ·exact a
    ·cases he
theorem vd{w:World}:∀(m:Nat) (t:TypeId) (xs ys:List Value) (b:Bool) (l:List (Option Addr×Option Addr)),Kw P m t xs ys=some (b,l)→oF w.heap l→
  ∀d,(Op.equalIn (d+m+1) t (.agg xs.toArray) (.agg ys.toArray)).run P w=.ok b w
 |0,_,_,_,_,_,he,_,_=>by cases he
 |m+1,t,xs,ys,b,l,he,hp,d=>by
  unfold Kw at he;split at he
  ·rename_i fs hu
   cases hs:P.stoodInHeld t with
   |true=>rw[hs]at he;cases he
   |false=>
    rw[hs]at he;have a:P.fieldsOf t=fs:=by simp[Program.fieldsOf,hu]
    rw[run_equalIn_struct w _ t _ _ (by rw[a];exact hu) hs,a];exact AG (d:=d+m) (fun t c vs b l f e=>vd m t c vs b l f e d) fs.toList b l he hp
  ·cases he
theorem Cz{neg b:Bool}{K:RK}{h:ad}{l:List (Option Addr×Option Addr)}(a:OI neg b K h l):∃S,K (.bool (bif neg then !b else b)) S∧Li S h∧∀h',Li S h'→oF h' l:=by
 cases l with
 |nil=>exact⟨none,a,trivial,fun _ _=>trivial⟩
 |cons p l=>exact⟨_,a.2,a.1,fun _ h=>h⟩
theorem F5{e:BinOp}{t:TypeId}{xs ys:Array Value}{x y:Operand}{K:RK}{h:ad}(a:MV P e t xs.toList ys.toList K h):
  ∃v S,K v S∧Li S h∧∀w:World,Li S w.heap→(do eqGuard e t x y (.agg xs) (.agg ys);binOp e t (.agg xs) (.agg ys):Sem Value).run P w=.ok v w:=by
 unfold MV at a;cases hg:P.eqGuardType P.depth t with
 |true=>rw[hg]at a;exact a.elim
 |false=>
  rw[hg]at a;simp only[cond_false]at a;split at a
  ·split at a
   ·rename_i b l he
    obtain⟨S,c,g,f⟩:=Cz a;refine⟨_,S,c,g,fun w d=>?_⟩
    have:=vd 10 t _ _ b l he (f _ d) 9989;simp only[Array.toArray_toList]at this;simp only[Sem.run_bind,run_eqGuard_agg w _ t x y _ _ hg,Result.andThen_ok,run_eql_struct,this];rfl
   ·exact a.elim
  ·split at a
   ·rename_i b l he
    obtain⟨S,c,g,f⟩:=Cz a;refine⟨_,S,c,g,fun w d=>?_⟩
    have:=vd 10 t _ _ b l he (f _ d) 9989;simp only[Array.toArray_toList]at this;simp only[Sem.run_bind,run_eqGuard_agg w _ t x y _ _ hg,Result.andThen_ok,run_neq_struct,this];rfl
   ·exact a.elim
  ·exact a.elim
theorem Ip{a:UnOp}{x:Value}{K:RK}{h:ad}(hv:Oo a x K):Yv P (Op.unary a x) K h:=by
 unfold Oo at hv;split at hv
 ·exact .of_pure hv fun w=>rfl
 ·exact .of_pure hv fun w=>rfl
 ·exact .of_pure hv fun w=>rfl
 ·exact hv.elim
theorem AR:∀(l:List UInt8) (s:ByteArray),(l.map fun b=>((b.toNat:Nat):Int)).foldl (fun r n=>r.push (eX n.toNat)) s=⟨s.data++l.toArray⟩
 | [],s=>by simp
 |b::l,s=>by
  simp only[eI,List.foldl_cons];rw[AR l];congr 1
  have:eX ((b.toNat:Nat):Int).toNat=b:=by simp
  rw[this];apply cj;simp[ByteArray.push]
theorem Av{e:TypeId}(h:Gp P e=true):P.underlying e=some (.int .u8):=by
 unfold Gp at h;split at h
 ·assumption
 ·cases h
theorem En{w:World}{a:Addr}{vs:List Value}(b:Row w.heap a vs):(loadCells a vs.length).run P w=.ok vs.toArray w:=by
 have:=run_firstCells_some (P:=P) w 1 vs.length a 0 0 vs (by simp) fun j v hv=>by rw[←qo];exact b j v hv
 simpa[Builtin.firstCells]using this
theorem Eu{f g:TypeId}{x:Value}{K:RK}{h:ad}(hv:JU P f g x K h):Yv P (convert f g x) K h:=by
 unfold JU at hv;split at hv
 ·rename_i k k' k'' n h1 h2
  exact .of_pure hv fun w=>by simp only[convert,Sem.run_bind,ao h1,ao h2,Result.andThen_ok];rfl
 ·rename_i s h1 h2
  exact .of_pure hv fun w=>by simp only[convert,Sem.run_bind,ao h1,ao h2,Result.andThen_ok];rfl
 ·rename_i e a n c h1 h2
  cases hu:Gp P e with
  |false=>rw[hu]at hv;exact hv.elim
  |true=>
   rw[hu]at hv;obtain⟨s,u,t⟩:=hv;refine⟨_,_,t,u,fun w m=>?_⟩
   rw[run_convert_bytes_string w f g e a n c h1 (Av hu) h2];obtain⟨p,m⟩:=m;rcases m with o|⟨b,rfl,q⟩
   ·have j:s=ByteArray.empty:=by
     have:s.data.toList= []:=by simpa[cT]using o
     cases s with
     |mk d=>simp at this;subst this;rfl
    cases a with
    |none=>rw[j];rfl
    |some b=>
     have y:n=0:=by rw[←p,o];rfl
     subst y;have:=En (P:=P) (w:=w) (a:=b) (vs:= []) fun i v hv=>by simp at hv
     rw[run_bytesToString w b 0 c [] (by simpa using this),j];rfl
   ·have:=En (P:=P) q
    rw[p]at this;rw[run_bytesToString w b n c (s.data.toList.map fun b=>((b.toNat:Nat):Int)) (by rw[this,List.map_map];rfl),AR]
    cases s;simp[ByteArray.empty,ByteArray.emptyWithCapacity];try rfl
 ·exact hv.elim
theorem Gc{u:TypeId}{cs:Array Value}{off:Nat}{K:RK}{h:ad}(b:∃d,P.underlying u=some d)(hi:∃i,P.info? u=some i)
  (hv:bif rI P u then K (.agg ((cs.toList.drop off).take (bA P u)).toArray) none else(match cs.toList[off]? with|some v=>K v none|none=>False)):Yv P (part u cs off) K h:=by
 obtain⟨i,hi⟩:=hi;cases ha:rI P u with
 |true=>
  rw[ha]at hv;refine .of_pure hv fun w=>?_
  have c:(sizeOf u).run P w=.ok (bA P u) w:=by simp[sizeOf,bZ hi,bA,hi]
  simp only[part,Sem.run_bind,rH hi b,Result.andThen_ok,ha,if_true,c,Sem.run_pure];congr 2
  apply cj;simp[ff]
 |false=>
  rw[ha]at hv;simp only[cond_false]at hv;cases hc:cs.toList[off]? with
  |none=>rw[hc]at hv;exact hv.elim
  |some v=>
   rw[hc]at hv;refine .of_pure hv fun w=>?_
   have a:cs[off]? =some v:=by simpa using hc
   simp only[part,Sem.run_bind,rH hi b,Result.andThen_ok,ha,eh,if_false,a,Sem.run_pure]
def si(P:Program)(v:Option Value)(d y n:Nat):Prop:=
 match v with
 |some x=>∀c w,(Instr.sliceBound x y c).run P w=.ok n w
 |none=>n=d
theorem jY{v:Option Value}{d y:Nat}{K:Nat→Prop}(hv:K6 v d y K):∃n,K n∧si P v d y n:=by
 unfold K6 at hv;split at hv
 ·exact⟨d,hv,rfl⟩
 ·rename_i k i
  obtain⟨⟨b,a⟩,e⟩:=hv;refine⟨i.toNat,e,fun c w=>?_⟩
  simp[Instr.sliceBound,asIntOf,b,a]
 ·exact hv.elim
theorem mD{c:Bool}{len cap n l:Nat}{lo hi:Option Value}(a:si P hi len cap n)(b:si P lo 0 n l)(w:World):
  (Instr.sliceBounds c len cap lo hi none).run P w=.ok (l,n,cap) w:=by
 cases hi with
 |none=>
  cases lo with
  |none=>simp only[si]at a b;subst a;subst b;simp[Instr.sliceBounds]
  |some lo=>simp only[si]at a b;subst a;simp[Instr.sliceBounds,b]
 |some hi=>
  cases lo with
  |none=>simp only[si]at a b;subst b;simp[Instr.sliceBounds,a]
  |some lo=>simp only[si]at a b;simp[Instr.sliceBounds,a,b]
theorem xm{c:Bool}{len cap n l m:Nat}{lo:Option Value}{hi d:Value}(hm:si P (some d) 0 cap m)(a:si P (some hi) 0 m n)(b:si P lo 0 n l)(w:World):
  (Instr.sliceBounds c len cap lo (some hi) (some d)).run P w=.ok (l,n,m) w:=by
 cases lo with
 |none=>simp only[si]at hm a b;subst b;simp[Instr.sliceBounds,hm,a]
 |some lo=>simp only[si]at hm a b;simp[Instr.sliceBounds,hm,a,b]
theorem uI(a:Option Addr)(l m size:Nat):(if m=l then a else a.map (·.add (l*size)))=aK a l m size:=by
 unfold aK;split
 ·rfl
 ·congr 1;funext x;rw[qo]
theorem mG{t:TypeId}{K:Prop}(h:Kd P t K):K∧∀w,(sizeOf t).run P w=.ok (bA P t) w:=by
 unfold Kd at h;cases hi:P.info? t with
 |none=>rw[hi]at h;exact h.elim
 |some i=>rw[hi]at h;exact⟨h,fun w=>by simp[sizeOf,bZ hi,bA,hi]⟩
theorem C6{t:TypeId}{x:Value}{f:Nat}{K:RK}{h:ad}(hv:F1 P t x f K):Yv P (Instr.field t x f) K h:=by
 unfold F1 at hv;split at hv
 ·rename_i u off cs hf
  obtain⟨j,g,b,e,rfl,rfl⟩:=sR hf;cases hb:((P.underlying g.type).isSome&&(P.info? g.type).isSome)with
  |false=>rw[hb]at hv;exact hv.elim
  |true=>
   rw[hb]at hv;simp only[aV,cN]at hb;obtain⟨v,S,c,i,a⟩:=Gc (cs:=cs) (off:=g.offset) (h:=h) hb.1 hb.2 hv;refine⟨v,S,c,i,fun w d=>?_⟩
   have:=a w d;simp only[Instr.field,Sem.run_bind,ao b,Result.andThen_ok,e,asAgg,Sem.run_pure,this]
 ·exact hv.elim
theorem xr{t:TypeId}{x i:Value}{K:RK}{h:ad}(hv:uP P t x i K):Yv P (Instr.indexAt t x i) K h:=by
 unfold uP at hv;split at hv
 ·rename_i n e a k i hu
  obtain⟨⟨⟨d,c⟩,f⟩,hz⟩:=mG hv;refine .of_pure f fun w=>?_
  simp[Instr.indexAt,asIntOf,ao hu,Instr.sureAddr,d,c,hz,qo]
 ·rename_i e b len cap k i hu
  obtain⟨⟨⟨d,c⟩,a,rfl,f⟩,hz⟩:=mG hv;refine .of_pure f fun w=>?_
  simp[Instr.indexAt,asIntOf,ao hu,d,c,hz,qo]
 ·exact hv.elim
theorem C5{t:TypeId}{x i:Value}{K:RK}{h:ad}(hv:F0 P t x i K):Yv P (Instr.index t x i) K h:=by
 unfold F0 at hv;split at hv
 ·rename_i s k i hu
  obtain⟨b,a,c,d⟩:=hv;refine .of_pure d fun w=>?_
  simp[Instr.index,asIntOf,ao hu,a,c]
 ·exact hv.elim
theorem C3{t:TypeId}{x:Value}{lo hi d:Option Value}{K:RK}{h:ad}(hv:FY P t x lo hi d K):Yv P (Instr.sliceAt t x lo hi d) K h:=by
 unfold FY at hv;split at hv
 ·rename_i s hu
  cases d with
  |some _=>exact hv.elim
  |none=>
   obtain⟨n,hv,b⟩:=jY (P:=P) hv;obtain⟨l,hv,c⟩:=jY (P:=P) hv;refine .of_pure hv fun w=>?_
   simp[Instr.sliceAt,Instr.slice,ao hu,mD b c]
 ·rename_i e a len cap hu
  obtain⟨hv,hz⟩:=mG hv;cases d with
  |none=>
   obtain⟨n,hv,b⟩:=jY (P:=P) hv;obtain⟨l,hv,c⟩:=jY (P:=P) hv;refine .of_pure hv fun w=>?_
   simp[Instr.sliceAt,Instr.slice,ao hu,mD b c,hz,uI]
  |some m=>
   cases hi with
   |none=>exact hv.elim
   |some hi=>
    obtain⟨g,hv,hm⟩:=jY (P:=P) hv;obtain⟨n,hv,b⟩:=jY (P:=P) hv;obtain⟨l,hv,c⟩:=jY (P:=P) hv;refine .of_pure hv fun w=>?_
    simp[Instr.sliceAt,Instr.slice,ao hu,xm hm b c,hz,uI]
 ·rename_i n e a hu
  obtain⟨hv,hz⟩:=mG hv;cases d with
  |some _=>exact hv.elim
  |none=>
   obtain⟨m,hv,b⟩:=jY (P:=P) hv;obtain⟨l,hv,c⟩:=jY (P:=P) hv;refine .of_pure hv fun w=>?_
   have f:(some (if n=l then a else a.add (l*bA P e)))=aK (some a) l n (bA P e):=by
    rw[←uI];split<;>rfl
   simp[Instr.sliceAt,ao hu,Instr.sureAddr,mD b c,hz,f]
 ·exact hv.elim
def l8(d:TypeDesc)(c:CK):Prop:=(∃i,d=.int i∧c=.int i)∨(d=.string∧c=.str)∨(d=.bool∧c=.bool)
theorem sL{t:TypeId}{c:CK}{e:TypeId}(h:EN P t=some (c,e)):∃k d,P.underlying t=some (.map k e)∧P.underlying k=some d∧l8 d c:=by
 unfold EN at h;split at h
 ·rename_i k e' hu
  split at h
  ·rename_i i hk
   simp only[bi.injEq,p8.injEq]at h;obtain⟨rfl,rfl⟩:=h;exact⟨k,_,hu,hk,.inl ⟨i,rfl,rfl⟩⟩
  ·rename_i hk
   simp only[bi.injEq,p8.injEq]at h;obtain⟨rfl,rfl⟩:=h;exact⟨k,_,hu,hk,.inr (.inl ⟨rfl,rfl⟩)⟩
  ·rename_i hk
   simp only[bi.injEq,p8.injEq]at h;obtain⟨rfl,rfl⟩:=h;exact⟨k,_,hu,hk,.inr (.inr ⟨rfl,rfl⟩)⟩
  ·cases h
 ·cases h
theorem yo{d:TypeDesc}{c:CK}(hd:l8 d c)(x y:c.den):Instr.sameNow d (c.enc x) (c.enc y)=some (fI (c.enc x) (c.enc y)):=by
 rcases hd with⟨i,rfl,rfl⟩|⟨rfl,rfl⟩|⟨rfl,rfl⟩
 ·simp[Instr.sameNow,CK.enc,fI]
 ·simp[Instr.sameNow,CK.enc,fI]
 ·simp[Instr.sameNow,CK.enc,fI]
theorem yA{d:TypeDesc}{c:CK}(hd:l8 d c)(x:c.den):∀(es:List MapEntry) (i:Nat),Au c es→
  ∃r,Instr.findNow d (c.enc x) es i=some r∧r.map (·.2)=EX (c.enc x) es
 | [],i,_=>⟨none,rfl,rfl⟩
 |e::es,i,h=>by
  obtain⟨y,f⟩:=h e (by simp);have b:=yo hd x y;rw[←f]at b;simp only[Instr.findNow,EX];cases hb:fI (c.enc x) e.key with
  |true=>rw[b,hb];exact⟨some (i,e.val),rfl,rfl⟩
  |false=>rw[b,hb];exact yA hd x es (i+1) fun e' a=>h e' (by simp[a])
theorem E7{a:Bool}{k:TypeId}{d:TypeDesc}{c:CK}(hd:l8 d c)(b:P.underlying k=some d)(v:Value)(n:Nat)(w:World):(Instr.checkKey a (n+1) k v).run P w=.ok () w:=by
 unfold Instr.checkKey;simp only[Sem.run_bind,ao b,Result.andThen_ok];rcases hd with⟨i,rfl,rfl⟩|⟨rfl,rfl⟩|⟨rfl,rfl⟩<;>rfl
theorem ry{k:TypeId}{d:TypeDesc}{c:CK}(hd:l8 d c)(b:P.underlying k=some d)(x:c.den){es:List MapEntry}(h:Au c es)(w:World):
  ∃r,(Instr.findKey k (c.enc x) es).run P w=.ok r w∧Instr.findNow d (c.enc x) es 0=some r∧r.map (·.2)=EX (c.enc x) es:=by
 obtain⟨r,a,hm⟩:=yA hd x es 0 h;refine⟨r,?_,a,hm⟩;simp only[Instr.findKey,Sem.run_bind,ao b,Result.andThen_ok,a,Sem.run_pure]
theorem jw{w:World}{r:Nat}{es:Array MapEntry}{a:Nat}(h:w.heap[r]? =some (.map es a)):(getObj r).run P w=.ok (.map es a) w:=by
 simp only[getObj,Sem.run,h]
theorem kL{a:Bool}{k:TypeId}{d:TypeDesc}{c:CK}(hd:l8 d c)(b:P.underlying k=some d)(v:Value)(w:World):(Instr.checkKey a 10000 k v).run P w=.ok () w:=
 E7 hd b v 9999 w
theorem Gh{t:TypeId}{c:CK}{e k:TypeId}{d:TypeDesc}(p:P.underlying t=some (.map k e))(f:P.underlying k=some d)(hd:l8 d c){m:Option Nat}{x:c.den}{z v:Value}{b j:Bool}{w:World}
  (hz:(zeroValue e).run P w=.ok z w)(hm:GS c z w.heap m (c.enc x) v b):
  (Instr.lookup t (.map m) (c.enc x) j).run P w=.ok (bif j then .tuple #[v,.bool b]else v) w:=by
 cases m with
 |none=>
  obtain⟨rfl,rfl⟩:=hm;simp only[Instr.lookup,Sem.run_bind,ao p,Result.andThen_ok,Sem.run_pure,kL hd f];obtain⟨r,i,o,a⟩:=ry (P:=P) hd f x (es:= []) (fun _ h=>by cases h) w
  simp only[Instr.findNow,bi.injEq]at o;subst o;simp[i,hz]
 |some r=>
  obtain⟨es,n,q,g,hv⟩:=hm;simp only[Instr.lookup,Sem.run_bind,ao p,Result.andThen_ok,jw q,Sem.run_pure,kL hd f];obtain⟨r,i,o,a⟩:=ry (P:=P) hd f x g w;simp only[i,Result.andThen_ok];cases r with
  |none=>
   simp only[Option.map_none]at a;rw[←a]at hv;obtain⟨rfl,rfl⟩:=hv;simp[hz]
  |some r=>
   simp only[fQ]at a;rw[←a]at hv;obtain⟨rfl,rfl⟩:=hv;cases j<;>rfl
theorem dE{e:TypeId}{z:Value}(h:ua P e=some z)(w:World):(zeroValue e).run P w=.ok z w:=by
 unfold ua at h;cases hi:P.info? e with
 |none=>rw[hi]at h;cases h
 |some i=>rw[hi]at h;simp only at h;simp[zeroValue,bZ hi,h]
theorem Bm{t:TypeId}{x k:Value}{a:Bool}{K:RK}{h:ad}(hv:C4 P t x k a K h):Yv P (Instr.lookup t x k a) K h:=by
 unfold C4 at hv;split at hv
 ·rename_i c e m hc
  obtain⟨o,d,g,f,hd⟩:=sL hc;obtain⟨n,rfl,hv⟩:=CK.dec_sound hv;split at hv
  ·rename_i ek z hek hz
   obtain⟨y,b,hm,j⟩:=hv;exact⟨_,_,j,hm,fun w i=>Gh g f hd (dE hz w) i⟩
  ·exact hv.elim
 ·exact hv.elim
theorem yq{w:World}{b cap s q:Nat}{buf:Array Value}{a t:Bool}(h:w.heap[b]? =some (.chan cap buf a s q t)):(getObj b).run P w=.ok (.chan cap buf a s q t) w:=by
 simp only[getObj,Sem.run,h]
theorem FZ{t:TypeId}{x:Value}{ats:Array TypeId}{ty:TypeId}{K:RK}{h:ad}(a:ats[0]? =some t) (hv:MR P t x K h):Yv P (Builtin.len_ ats ty #[x]) K h:=by
 unfold MR at hv;split at hv
 ·rename_i s hu
  exact .of_pure hv fun w=>by simp[Builtin.len_,a,ao hu,goInt]
 ·rename_i n e _ hu
  exact .of_pure hv fun w=>by simp[Builtin.len_,a,ao hu,goInt]
 ·rename_i e b n c hu
  exact .of_pure hv fun w=>by simp[Builtin.len_,a,ao hu,goInt]
 ·rename_i k e m hu
  obtain⟨n,hm,g⟩:=hv;refine⟨_,_,g,hm,fun w d=>?_⟩
  cases m with
  |none=>
   have:n=0:=d;subst this;simp[Builtin.len_,a,ao hu,goInt]
  |some r=>
   obtain⟨es,i,f,rfl⟩:=d;simp[Builtin.len_,a,ao hu,goInt,jw f]
 ·rename_i k e m hu
  obtain⟨n,hm,g⟩:=hv;refine⟨_,_,g,hm,fun w d=>?_⟩
  cases m with
  |none=>
   have:n=0:=d;subst this;simp[Builtin.len_,a,ao hu,goInt]
  |some r=>
   obtain⟨cap,buf,j,s,q,f,rfl⟩:=d;simp[Builtin.len_,a,ao hu,goInt,yq f]
 ·exact hv.elim
theorem F3{t:TypeId}{x:Value}{ats:Array TypeId}{ty:TypeId}{K:RK}{h:ad}(a:ats[0]? =some t) (hv:MS P t x K h):Yv P (Builtin.cap_ ats ty #[x]) K h:=by
 unfold MS at hv;split at hv
 ·rename_i e b n c hu
  exact .of_pure hv fun w=>by simp[Builtin.cap_,a,ao hu,goInt]
 ·rename_i k e m hu
  obtain⟨n,hm,g⟩:=hv;refine⟨_,_,g,hm,fun w d=>?_⟩
  cases m with
  |none=>
   have:n=0:=d;subst this;simp[Builtin.cap_,a,ao hu,goInt]
  |some r=>
   obtain⟨cap,buf,i,s,q,f,rfl⟩:=d;simp[Builtin.cap_,a,ao hu,goInt,yq f]
 ·exact hv.elim
theorem vW{c:Bool}{k:IntKind}:∀{vs:List Value} {a:Int} {f:Value→Prop},Dh c k a vs f→∃v,f v∧∀w,(vs.foldlM (bif c then Builtin.max2 else Builtin.min2) (Value.int k a):Sem Value).run P w=.ok v w
 | [],a,f,h=>⟨_,h,fun w=>by simp⟩
 | .int k' b::vs,a,f,h=>by
  simp only[Dh]at h;cases hk:Dm k' k with
  |false=>rw[hk]at h;exact h.elim
  |true=>
   rw[hk]at h;have:=wc hk;subst this;obtain⟨v,e,d⟩:=vW h;refine⟨v,e,fun w=>?_⟩
   rw[←d w];cases c<;>simp[List.foldlM_cons,Builtin.max2,Builtin.min2]
theorem uj{a:Bool}{vs:List Value}{f:Value→Prop}{ats:Array TypeId}{ty:TypeId}(h:zk a vs f):∃v,f v∧∀w,(bif a then Builtin.max_ ats ty vs.toArray else Builtin.min_ ats ty vs.toArray).run P w=.ok v w:=by
 unfold zk at h;split at h
 ·obtain⟨v,c,b⟩:=vW (P:=P) h
  refine⟨v,c,fun w=>?_⟩
  have:=b w;cases a<;>simpa[Builtin.max_,Builtin.min_]using this
 ·exact h.elim
theorem IL{a:Addr}{e:MapEntry}{w:World}(j:a.off=0)(h:GT w.heap a.block e):(Instr.entry (.pointer (some a))).run P w=.ok (.tuple #[e.key,e.val]) w:=by
 obtain⟨m,c,f,d,g,es,hi,k,hm,n⟩:=h;obtain⟨b,off,i⟩:=a;simp only at j hi;subst j;have o:(getObj b).run P w=.ok (.mapIter (some m) c f d) w:=by simp only[getObj,Sem.run,hi]
 simp[Instr.entry,o,k,jw hm,n]
def BQ:DV→Value→Prop
 | .t,v=>v=.bool true
 | .f,v=>v=.bool false
 | .u,v=>v=undef
 | .x,_=>True
def DecOk(d:q9)(r:bP):Prop:=∀t,nP d t=.x∨∃v,il r t=some v∧BQ (nP d t) v
theorem DecOk.at{d:q9}{r:bP}(h:DecOk d r){t:Nat}{v:Value}(hv:il r t=some v):BQ (nP d t) v:=by
 rcases h t with e|⟨u,a,b⟩
 ·rw[e];trivial
 ·rw[hv]at a;cases a;exact b
theorem qG{d:q9}{r:bP}(hd:DecOk d r){o:Operand}{v:Value}(h:cA r o=some v):BQ (wm d o) v:=by
 cases o with
 |tmp t=>exact hd.at h
 |const c=>
  simp[cA]at h;subst h;cases c with
  |bool b=>cases b<;>exact rfl
  |_=>trivial
 |global g=>trivial
 |func f=>trivial
theorem yx{t:TypeId}(h:nf P t=true):∃d,P.underlying t=some d∧∀m,d≠ .interface m:=by
 unfold nf at h;split at h
 ·cases h
 ·rename_i d hd;exact⟨_,hd,fun m e=>by subst e;simp_all⟩
 ·cases h
theorem vZ{t:TypeId}{v:Value}(h:nf P t=true)(w:World):(Instr.makeInterface t v).run P w=.ok (.iface t v) w:=by
 obtain⟨d,hd,a⟩:=yx h;simp only[Instr.makeInterface,Sem.run_bind,ao hd,Result.andThen_ok];cases d<;>first|exact absurd rfl (a _)|rfl
theorem zI{t u:TypeId}{v:Value}(h:nf P t=true)(w:World):(Instr.typeAssert (.iface t v) u t false).run P w=.ok v w:=by
 obtain⟨d,hd,a⟩:=yx h;simp only[Instr.typeAssert,Sem.run_bind,ao hd,Result.andThen_ok];cases d<;>first|exact absurd rfl (a _)|(simp[Sem.run_pure])
theorem ij{t:TypeId}{z:List Value}(h:nz P t=some z):∃v,ua P t=some v∧v.cells.toList=z:=by
 unfold nz at h;cases hz:ua P t with
 |none=>rw[hz]at h;cases h
 |some v=>rw[hz]at h;simp only[bi.injEq]at h;exact⟨v,rfl,h⟩
theorem nZ{t:TypeId}{v:Value}(h:ua P t=some v):∃i,P.info? t=some i∧i.zero=some v:=by
 unfold ua at h;cases hi:P.info? t with
 |none=>rw[hi]at h;cases h
 |some i=>rw[hi]at h;exact⟨i,rfl,h⟩
theorem KU{A B:List Value}{x:Value}{m:Nat}(h:A.length=m):(A++x::B).take (m+1)=A++ [x]:=by
 subst h;rw[List.take_append,bh (by omega),show A.length+1-A.length=1 by omega];rfl
theorem KV{A B:List Value}{x:Value}{m n:Nat}(h:A.length=m):(A++x::B).drop (m+1+n)=B.drop n:=by
 subst h;rw[List.drop_append,List.drop_eq_nil_of_le (by omega),show A.length+1+n-A.length=n+1 by omega];rfl
theorem EV(off:Nat):∀(xs:List Value) (k:Nat) (arr:Array Value),off+k+xs.length≤arr.size→
  (xs.zipIdx k).foldl (fun cs (c,j)=>cs.setIfInBounds (off+j) c) arr=(Ey arr.toList (off+k) xs).toArray
 | [],k,arr,_=>by simp[Ey]
 |x::xs,k,arr,h=>by
  simp only[aO]at h;simp only[List.zipIdx_cons,List.foldl_cons];rw[EV off xs (k+1) _ (by simp;omega)];have hm:off+k<arr.toList.length:=by simp;omega
  have b:arr.toList.set (off+k) x=arr.toList.take (off+k)++x::arr.toList.drop (off+k+1):=by
   rw[List.set_eq_take_append_cons_drop,if_pos hm]
  have a:(arr.toList.take (off+k)).length=off+k:=by simp;omega
  congr 1
  unfold Ey;rw[Array.toList_setIfInBounds,b,←qt,KU a,KV a];simp only[List.append_assoc,dt,List.nil_append,aO,List.drop_drop];rw[show off+k+1+xs.length=off+k+(xs.length+1) by omega]
theorem pu{a:Nat→Option (Nat×Nat)}:∀(parts:List (Nat×Value)) (cs cs':List Value),yB a cs parts=some cs'→Instr.fill a cs.toArray parts=some cs'.toArray
 | [],cs,cs',h=>by simp only[yB,bi.injEq]at h;subst h;rfl
 |(i,v)::rest,cs,cs',h=>by
  simp only[yB]at h;cases hp:a i with
  |none=>rw[hp]at h;cases h
  |some os=>
   obtain⟨off,size⟩:=os;rw[hp]at h;simp only at h;cases hb:(aY v.cells.toList.length size&&tN (off+v.cells.toList.length) cs.length)with
   |false=>rw[hb]at h;cases h
   |true=>
    rw[hb]at h;simp only[aV]at hb;have c:=aI hb.1;have g:=gp hb.2;have d:=pu rest _ _ h;have e:v.cells.size=size:=by simpa using c
    have b:off+v.cells.size≤cs.length:=by simpa using g
    have f:Array.foldl (fun cs x=>cs.setIfInBounds (off+x.2) x.1) cs.toArray v.cells.zipIdx=(Ey cs off v.cells.toList).toArray:=by
     have:=EV off v.cells.toList 0 cs.toArray (by simpa using b);simp only[dL]at this;rw[←this,←Array.foldl_toList];congr 1
     simp[Array.toList_zipIdx]
    simp only[Instr.fill,hp];rw[if_neg (by simp[e];omega)];simp only[f];exact d
theorem lP{N:Nat}{r:bP}{a:Act}(h:Agree N r a):∀{ps:List (Nat×Operand)} {vs:List (Nat×Value)},m9 r ps=some vs→ps.map (fun p=>(p.1,a.eval p.2))=vs
 | [],vs,hv=>by simp[m9]at hv;subst hv;rfl
 |(i,o)::ps,vs,hv=>by
  simp only[m9]at hv;cases ho:cA r o with
  |none=>simp[ho]at hv
  |some v=>cases hos:m9 r ps with
   |none=>simp[ho,hos]at hv
   |some us=>simp[ho,hos]at hv;subst hv;simp[im h ho,lP h hos]
theorem ng{t:TypeId}(h:tG P t=true)(w:World):(sizeOf t).run P w=.ok (bA P t) w:=by
 unfold tG at h;cases hi:P.info? t with
 |none=>rw[hi]at h;cases h
 |some i=>simp[sizeOf,bZ hi,bA,hi]
theorem Ah(w:World):∀l:List Field,wz P l=true→(l.mapM fun f:Field=>((do pure (f.offset,←sizeOf f.type)):Sem (Nat×Nat))).run P w=.ok (l.map fun f:Field=>(f.offset,bA P f.type)) w
 | [],_=>rfl
 |f::l,h=>by
  simp only[wz]at h;cases hf:tG P f.type with
  |false=>rw[hf]at h;cases h
  |true=>
   rw[hf]at h;rw[List.mapM_cons];simp only[Sem.run_bind,ng hf,Result.andThen_ok,Sem.run_pure,Ah w l h,eI]
theorem wy{t:TypeId}{ps:Array (Nat×Value)}{cs:List Value}(a:DD P t ps.toList=some cs)(w:World):
  (Instr.build t ps).run P w=.ok (.agg cs.toArray) w:=by
 unfold DD at a;split at a
 ·rename_i fs z hu hz
  obtain⟨v,hz,hv⟩:=ij hz;cases ha:wz P fs.toList with
  |false=>rw[ha]at a;cases a
  |true=>
   rw[ha]at a;have g:(fs.mapM fun f:Field=>((do pure (f.offset,←sizeOf f.type)):Sem (Nat×Nat))).run P w=.ok (fs.map fun f:Field=>(f.offset,bA P f.type)) w:=by
    rw[Array.mapM_eq_mapM_toList];simp only[Sem.run_map,Ah w fs.toList ha,Result.andThen_ok];congr 1
    apply cj;simp
   have d:=pu _ _ _ a;have b:(fun i:Nat=>(fs.map fun f:Field=>(f.offset,bA P f.type))[i]?)=Gb P fs.toList:=by
    funext i;unfold Gb;rw[Array.getElem?_map,aR];cases fs[i]?<;>rfl
   have c:v.cells=z.toArray:=by rw[←hv]
   rw[cond_true]at a;rw[←b]at d;simp only[Instr.build,Sem.run_bind,dE hz,Result.andThen_ok,ao hu,g,c,d,Sem.run_pure]
 ·rename_i n e z hu hz
  obtain⟨v,hz,hv⟩:=ij hz;cases ha:tG P e with
  |false=>rw[ha]at a;cases a
  |true=>
   rw[ha]at a;have d:=pu _ _ _ a;have c:v.cells=z.toArray:=by rw[←hv]
   simp only[Instr.build,Sem.run_bind,dE hz,Result.andThen_ok,ao hu,ng ha,c,d,Sem.run_pure]
 ·cases a
theorem xq{ek:Option (Kind×Kind)}{o:Oper}{r:bP}{K:RK}{h:ad}{N:Nat}{a:Act}(O:Agree N r a)(g:xh P ek o.op r K h)(d:q9)(hd:DecOk d r):
  ∃v S,K v S∧Li S h∧BQ (D6 d o.op) v∧∀w:World,Li S w.heap→(execOp a.eval o).run P w=.ok (.value v) w:=by
 have j:∀{x:Operand} {v:Value},cA r x=some v→a.eval x=v:=fun h=>im O h
 have fin:∀{s:Sem Value},Yv P s K h→D6 d o.op=.x→(∀w,(execOp a.eval o).run P w=(do pure (Next.value (←s)):Sem Next).run P w)→
   ∃v S,K v S∧Li S h∧BQ (D6 d o.op) v∧∀w:World,Li S w.heap→(execOp a.eval o).run P w=.ok (.value v) w:=by
  rintro s ⟨v,S,n,A,z⟩ hx E;exact⟨v,S,n,A,by rw[hx];trivial,fun w C=>by rw[E w];exact gv (z w C)⟩
 obtain⟨Q,L,type,lh,F,G⟩:=o;simp only at g fin⊢;cases L with
 |move x=>
  simp only[xh]at g;split at g
  ·rename_i v hv
   exact⟨v,none,g,trivial,qG hd hv,fun w _=>by simp[execOp,j hv]⟩
  ·exact g.elim
 |assign x=>
  simp only[xh]at g;split at g
  ·rename_i v hv
   exact⟨v,none,g,trivial,qG hd hv,fun w _=>by simp[execOp,j hv]⟩
  ·exact g.elim
 |pick c x y=>
  simp only[xh]at g;split at g
  ·rename_i vc va vb hc hx R
   unfold Mm at g;split at g
   ·rename_i cb
    have H:=qG hd hc;have X:=qG hd hx;have W:=qG hd R;have E:∀w,(execOp a.eval ⟨Q,.pick c x y,type,lh,F,G⟩).run P w=.ok (.value (if cb then va else vb)) w:=fun w=>by
     simp[execOp,j hc,j hx,j R,asBool]
    have J:BQ (D6 d (.pick c x y)) (if cb then va else vb):=by
     simp only[D6];cases hcd:wm d c with
     |t=>
      rw[hcd]at H;have:cb=true:=by simpa[BQ]using H
      subst this;exact X
     |f=>
      rw[hcd]at H;have:cb=false:=by simpa[BQ]using H
      subst this;exact W
     |u=>trivial
     |x=>trivial
    split at g
    ·rename_i bx by'
     have M:(if cb=true then Value.bool bx else Value.bool by')=.bool (bif cb then bx else by'):=by cases cb<;>rfl
     rw[M]at J;exact⟨_,none,g,trivial,J,fun w _=>by rw[E w,M]⟩
    ·cases cb
     ·exact⟨_,none,g,trivial,J,fun w _=>E w⟩
     ·exact⟨_,none,g,trivial,J,fun w _=>E w⟩
   ·exact g.elim
  ·exact g.elim
 |load t x=>
  simp only[xh]at g;split at g
  ·rename_i v hv
   obtain⟨u,S,n,A,z⟩:=yu g;exact fin ⟨u,some S,n,A,z⟩ rfl fun w=>by simp only[execOp,j hv]
  ·exact g.elim
 |nilCheck x=>
  simp only[xh]at g;split at g
  ·rename_i p hv
   obtain⟨b,rfl,n⟩:=g;exact⟨_,none,n,trivial,trivial,fun w _=>by simp[execOp,j hv]⟩
  ·exact g.elim
 |binOp L t x y yt=>
  simp only[xh]at g;split at g
  ·rename_i v u hv hu
   obtain⟨V,S,n,A,z⟩:=F5 (x:=x) (y:=y) g;refine⟨V,S,n,A,trivial,fun w C=>?_⟩
   simp only[execOp,j hv,j hu];exact gv (z w C)
  ·rename_i v u hna hv hu
   have go:(∀c d,v=.agg c→u=.agg d→False)∧(v=.nilIface→u=.nilIface→False)∧Yv P (binOp L t v u) K h:=by
    split at g
    ·exact Al (neg:=false) g
    ·exact Al (neg:=true) g
    ·exact F4 g
   obtain⟨h1,h2,V,S,n,A,z⟩:=go;refine⟨V,S,n,A,trivial,fun w C=>?_⟩
   simp only[execOp,j hv,j hu];simp[GC L t x y v u h1 h2 w,z w C]
  ·exact g.elim
 |unOp L t x=>
  simp only[xh]at g;split at g
  ·rename_i v hv
   obtain⟨u,S,n,A,z⟩:=Ip (P:=P) (h:=h) g;refine⟨u,S,n,A,?_,fun w C=>by simp only[execOp,j hv];exact gv (z w C)⟩
   have I:=qG hd hv;cases L<;>try trivial
   simp only[D6];have B:=z {(default:World)with heap:=h} A;cases hx:wm d x with
   |t=>
    rw[hx]at I;have:v=.bool true:=I;subst this;simp[Op.unary]at B;exact B.symm
   |f=>
    rw[hx]at I;have:v=.bool false:=I;subst this;simp[Op.unary]at B;exact B.symm
   |u=>trivial
   |x=>trivial
  ·exact g.elim
 |convert s t x=>
  simp only[xh]at g;split at g
  ·rename_i v hv
   exact fin (Eu g) rfl fun w=>by simp only[execOp,j hv]
  ·exact g.elim
 |extract x i=>
  simp only[xh]at g;split at g
  ·rename_i vs hv
   split at g
   ·rename_i u hu
    have T:vs[i]? =some u:=by simpa using hu
    exact⟨u,none,g,trivial,trivial,fun w _=>by simp[execOp,j hv,Instr.extract,T]⟩
   ·exact g.elim
  ·exact g.elim
 |fieldAddr t x f=>
  simp only[xh]at g;split at g
  ·rename_i b u off hv hf
   exact fin (yW hf g) rfl fun w=>by simp only[execOp,j hv]
  ·exact g.elim
 |field t x f=>
  simp only[xh]at g;split at g
  ·rename_i v hv
   exact fin (C6 g) rfl fun w=>by simp only[execOp,j hv]
  ·exact g.elim
 |indexAddr t x i=>
  simp only[xh]at g;split at g
  ·rename_i v u hv hu
   exact fin (xr g) rfl fun w=>by simp only[execOp,j hv,j hu]
  ·exact g.elim
 |index t x i=>
  simp only[xh]at g;split at g
  ·rename_i v u hv hu
   exact fin (C5 g) rfl fun w=>by simp only[execOp,j hv,j hu]
  ·exact g.elim
 |slice t x lo hi mx=>
  simp only[xh]at g;split at g
  ·rename_i v l h' m hv hl hh hm
   have Y:∀{x:Option Operand} {v:Option Value},Cj r x=some v→x.map a.eval=v:=by
    intro x v hx;cases x with
    |none=>simp[Cj]at hx;subst hx;rfl
    |some x=>
     simp only[Cj]at hx;cases E:cA r x with
     |none=>simp[E]at hx
     |some u=>simp[E]at hx;subst hx;simp[j E]
   exact fin (C3 g) rfl fun w=>by simp only[execOp,j hv,Y hl,Y hh,Y hm]
  ·exact g.elim
 |lookup t x k ok=>
  simp only[xh]at g;split at g
  ·rename_i v u hv hu
   exact fin (Bm g) rfl fun w=>by simp only[execOp,j hv,j hu]
  ·exact g.elim
 |makeInterface t x=>
  simp only[xh]at g;split at g
  ·rename_i v hv
   cases hb:nf P t with
   |false=>rw[hb]at g;exact g.elim
   |true=>
    rw[hb,cond_true]at g;exact⟨_,none,g,trivial,trivial,fun w _=>by simp only[execOp,j hv];exact gv (vZ hb w)⟩
  ·exact g.elim
 |typeAssert x u t ok=>
  simp only[xh]at g;split at g
  ·rename_i v hv
   cases ok with
   |true=>exact g.elim
   |false=>
    rw[cond_false]at g;unfold Hn at g;cases hb:nf P t with
    |false=>rw[hb]at g;exact g.elim
    |true=>
     rw[hb,cond_true]at g;split at g
     ·obtain⟨y,rfl,n⟩:=g
      exact⟨_,none,n,trivial,trivial,fun w _=>by simp only[execOp,j hv];exact gv (zI hb w)⟩
     ·exact g.elim
  ·exact g.elim
 |makeFunc fn first cap=>
  simp only[xh]at g;split at g
  ·rename_i vs us hv hu
   have M:=jL O hv;have e2:=jL O hu;refine⟨_,none,g,trivial,trivial,fun w _=>?_⟩
   have Z:first.map a.eval=vs.toArray:=by rw[←M];apply cj;simp
   have f2:cap.map a.eval=us.toArray:=by rw[←e2];apply cj;simp
   simp[execOp,Instr.makeFunc,Z,f2]
  ·exact g.elim
 |entry it=>
  simp only[xh]at g;split at g
  ·rename_i b kk vk hv
   obtain⟨h0,e,x,y,hi,n,R,hK⟩:=g;refine⟨_,_,hK,hi,trivial,fun w C=>?_⟩
   simp only[execOp,j hv];refine gv ?_;rw[IL h0 C,n,R]
  ·exact g.elim
 |call c=>
  simp only[xh]at g;have D:∀{b:Builtin} {vs:List Value},c.callee=.builtin b→lg r c.args.toList=some vs→∃cs:Array Bool,∀w,(execOp a.eval ⟨Q,.call c,type,lh,F,G⟩).run P w=
    (builtin b c.argTypes type cs vs.toArray).run P w:=by
   intro b vs hc q;have M:=jL O q;have Z:c.args.map a.eval=vs.toArray:=by rw[←M];apply cj;simp
   refine⟨c.args.map fun| .const _=>true|_=>false,fun w=>?_⟩
   simp[execOp,resolve,hc,Z,invoke];rfl
  split at g
  ·rename_i v t hc q hat
   obtain⟨cs,D⟩:=D hc q;obtain⟨u,S,n,A,z⟩:=FZ (ats:=c.argTypes) (ty:=type) (by rw[←aR,hat];rfl) g;exact⟨u,S,n,A,trivial,fun w C=>by rw[D w];simp only[builtin];exact gv (z w C)⟩
  ·rename_i v t hc q hat
   obtain⟨cs,D⟩:=D hc q;obtain⟨u,S,n,A,z⟩:=F3 (h:=h) (ats:=c.argTypes) (ty:=type) (by rw[←aR,hat];rfl) g;exact⟨u,S,n,A,trivial,fun w C=>by rw[D w];simp only[builtin];exact gv (z w C)⟩
  ·rename_i vs hc q
   obtain⟨cs,D⟩:=D hc q;obtain⟨u,n,z⟩:=uj (P:=P) (ats:=c.argTypes) (ty:=type) g;exact⟨u,none,n,trivial,trivial,fun w _=>by rw[D w];simp only[builtin];exact gv (z w)⟩
  ·rename_i vs hc q
   obtain⟨cs,D⟩:=D hc q;obtain⟨u,n,z⟩:=uj (P:=P) (ats:=c.argTypes) (ty:=type) g;exact⟨u,none,n,trivial,trivial,fun w _=>by rw[D w];simp only[builtin];exact gv (z w)⟩
  ·exact g.elim
 |build t ps=>
  simp only[xh]at g;split at g
  ·rename_i vs q
   split at g
   ·rename_i cs hcs
    refine⟨_,none,g,trivial,trivial,fun w _=>?_⟩
    have hp:(ps.map fun x=>(x.1,a.eval x.2))=vs.toArray:=by
     rw[←lP O q];apply cj;simp
    have E:=wy (ps:=vs.toArray) (by simpa using hcs) w;simp only[execOp];rw[show(ps.map fun(i,x)=>(i,a.eval x))=vs.toArray from hp]
    exact gv E
   ·exact g.elim
  ·exact g.elim
 |_=>simp only[xh]at g
end Go.Lift
namespace Go.Lift
open Go
variable {P:Program}
def E9(P:Program)(s:Sem Next)(K:WK)(w:World):Prop:=
 (∃v w',s.run P w=.ok (.value v) w'∧Tame w w'∧K v w'.heap)∨
 (∃w',s.run P w=.ok .skip w'∧Tame w w'∧K undef w'.heap)∨
 (∃f args,s.run P w=.ok (.enter f args) w∧Calls P f args w fun e w'=>Tame w w'∧∃v,e=.returned v∧K v w'.heap)∨
 (∃l fn tmps assign body,s.run P w=.ok (.round l fn tmps assign body) w∧
  ∀(c:Frame) (cs:List Frame),∃b w',Tame w w'∧K (.bool b) w'.heap∧Steps P (lone (Frame.round l fn tmps assign body .normal) (c::cs) w) (lone (c.finish (.bool b)) cs w'))
def Wv(P:Program)(s:Sem Value)(K:WK)(w:World):Prop:=∃v w',s.run P w=.ok v w'∧Tame w w'∧K v w'.heap
theorem Wv.out{s:Sem Value}{K:WK}{w:World}(h:Wv P s K w):E9 P (do pure (Next.value (←s))) K w:=by
 obtain⟨v,w',a,c,b⟩:=h;exact .inl ⟨v,w',gv a,c,b⟩
def Wu(P:Program)(s:Sem Unit)(K:WK)(w:World):Prop:=∃w',s.run P w=.ok () w'∧Tame w w'∧K undef w'.heap
theorem Wu.out{s:Sem Unit}{K:WK}{w:World}(h:Wu P s K w):E9 P (do s;pure Next.skip) K w:=by
 obtain⟨w',a,c,b⟩:=h;exact .inr (.inl ⟨w',JQ a,c,b⟩)
def ik(w:World)(h:ad):World:={w with heap:=h}
theorem dB(w:World)(h:ad):Tame w (ik w h):=⟨rfl,rfl,rfl⟩
theorem iy(e:TypeId)(cs:Array Value)(w:World):(newRow e cs).run P w=.ok (aC w.heap) (ik w (hnew w.heap cs.toList e)):=by
 simp[newRow,newObj,Sem.run,aC,ik,hnew,bind,Sem.bind,pure]
theorem Ab(o:Obj)(w:World):(newObj o).run P w=.ok w.heap.size (ik w (w.heap.push o)):=rfl
theorem Bt{h:ad}{a b:Addr}(v:Value)(c:a≠b):aG (hset h a v) b=aG h b:=
 World.cell?_setCell_other {(default:World)with heap:=h} a b v c
theorem yV{h:ad}{a:Addr}{u:Value}(v:Value)(hc:aG h a=some u):aG (hset h a v) a=some v:=
 World.cell?_setCell_same {(default:World)with heap:=h} a v hc
theorem Dn{h:ad}{a b:Addr}(v:Value):zo (hset h a v) b=zo h b:=
 World.frozen?_setCell {(default:World)with heap:=h} a b v
theorem Wr.hset{h:ad}{a b:Addr}(v:Value)(f:Wr h b):Wr (hset h a v) b:=by
 obtain⟨⟨u,c⟩,d⟩:=f;refine⟨?_,by rw[Dn];exact d⟩
 by_cases e:a=b
 ·subst e;exact⟨v,yV v c⟩
 ·exact⟨u,by rw[Bt v e];exact c⟩
theorem FR{w:World}{a:Addr}{v:Value}(hv:∀cs,v≠ .agg cs)(d:∀cs,v≠ .tuple cs)(f:Wr w.heap a):(store a v).run P w=.ok () (ik w (hset w.heap a v)):=by
 obtain⟨⟨u,e⟩,g⟩:=f;have b:w.cell? a=some u:=e;have c:w.frozen? a=false:=g;cases v<;>first|exact absurd rfl (hv _)|exact absurd rfl (d _)|(simp only[store,Sem.run,b,c];rfl)
theorem De{v:Value}{vs:List Value}(h:bH (v::vs)=true):(∀cs,v≠ .agg cs)∧(∀cs,v≠ .tuple cs)∧bH vs=true:=by
 simp only[bH,aV]at h;refine⟨fun cs e=>?_,fun cs e=>?_,h.2⟩<;>(subst e;exact absurd h.1 (by simp))
theorem oC{a:Addr}:∀(vs:List Value) (i:Nat) (w:World),bH vs=true→(∀j,j<vs.length→Wr w.heap (adr a (i+j)))→
  (storeCells a vs i).run P w=.ok () (ik w (gd w.heap a i vs))
 | [],i,w,_,_=>rfl
 |v::vs,i,w,b,hw=>by
  obtain⟨f,d,b⟩:=De b;have c:=hw 0 (by simp);simp only[dL]at c;have e:a.add i=adr a i:=(qo a i).symm;simp only[storeCells,e,Sem.run_bind,FR f d c,Result.andThen_ok];rw[oC vs (i+1) (ik w (hset w.heap (adr a i) v)) b fun j g=>?_]
  ·rfl
  ·have:=hw (j+1) (by simp only[aO];omega)
   rw[show i+1+j=i+(j+1) by omega]
   exact this.hset v
theorem Ct{a:Addr}(m:Nat):∀(vs:List Value) (i:Nat) (h:ad),gd h (adr a m) i vs=gd h a (m+i) vs
 | [],_,_=>rfl
 |v::vs,i,h=>by
  simp only[gd];rw[Ct m vs (i+1),wC];rfl
theorem CO{t:TypeId}{a v:Value}{K:WK}{w:World}(c:Fx P t a v K w.heap):Wu P (Instr.storeAt t a v) K w:=by
 unfold Fx at c;split at c
 ·rename_i a
  cases hb:(aY v.cells.toList.length (bA P t)&&bH v.cells.toList)with
  |false=>rw[hb]at c;exact c.elim
  |true=>
   rw[hb]at c;simp only[aV]at hb;have n:=aI hb.1;obtain⟨c,hz⟩:=mG c;have k:v.cells.size=bA P t:=by simpa using n
   have m:(∀j,j<v.cells.toList.length→Wr w.heap (adr a (0+j)))→(Instr.storeAt t (.pointer (some a)) v).run P w=.ok () (ik w (gd w.heap a 0 v.cells.toList)):=by
    intro d;have:=oC (P:=P) v.cells.toList 0 w hb.2 d;simp[Instr.storeAt,Instr.sureAddr,storeVar,hz,k,this]
   split at c
   ·rename_i u hu
    obtain⟨d,g⟩:=c;refine⟨_,m (fun j f=>?_),dB _ _,?_⟩
    ·rw[hu]at f;simp only[aO,List.length_nil]at f
     obtain rfl:j=0:=by omega
     exact d
    ·rw[hu];exact g
   ·obtain⟨d,g⟩:=c
    refine⟨_,m (fun j f=>?_),dB _ _,g⟩
    rcases d with e|⟨b,i,d⟩
    ·rw[e]at f;cases f
    ·cases i;exact d j f
 ·exact c.elim
theorem gZ(z:Array Value)(n:Nat):(Builtin.zeroCells z n).toList=cI n z.toList:=by
 have key:∀n,(List.range (n*z.size)).map (fun i=>z[i%z.size]!)=(gi n z.toList).flatten:=by
  intro n;induction n with
  |zero=>simp
  |succ n ih=>
   rw[Nat.succ_mul,List.range_add,List.map_append,ih,List.replicate_succ',List.flatten_append];congr 1
   simp only[List.map_map,List.flatten_cons,List.flatten_nil,List.append_nil];apply List.ext_getElem
   ·simp
   ·intro i a b
    simp only[List.length_map,List.length_range]at a;simp[Nat.mod_eq_of_lt a,a,Nat.add_mod]
 simpa[Builtin.zeroCells,cI]using key n
theorem cJ{t e:TypeId}(h:rU P t=some e):P.underlying t=some (.slice e):=by
 unfold rU at h;split at h
 ·rename_i e' hu;simp only[bi.injEq]at h;subst h;exact hu
 ·cases h
theorem Ha{z:Value}{n:Nat}:((Array.range (n*z.cells.size)).map (z.cells[· %z.cells.size]!))=(cI n z.cells.toList).toArray:=by
 have:=gZ z.cells n;unfold Builtin.zeroCells at this;apply cj;rw[this]
theorem xJ{t e:TypeId}{n:Nat}{ps:Array (Nat×Value)}{z cs:List Value}(m:rU P t=some e)(hz:nz P e=some z)(q:n*bA P e≤16777216)(j:z.length=bA P e)
  (k:yB (fun i=>some (i*bA P e,bA P e)) (cI n z) ps.toList=some cs)(w:World):
  (Instr.buildSlice t n ps).run P w=.ok (.slice (some (aC w.heap)) n n) (ik w (hnew w.heap cs e)):=by
 obtain⟨v,hv,c⟩:=ij hz;obtain⟨i,hi,p⟩:=nZ hv;have o:(sizeOf e).run P w=.ok (bA P e) w:=by simp[sizeOf,bZ hi,bA,hi]
 have f:v.cells.size=bA P e:=by rw[←j,←c];simp
 have g:=pu _ _ _ k;have a:((Array.range (n*bA P e)).map (fun i=>(if n*bA P e=0 then #[]else v.cells)[i%(if n*bA P e=0 then #[]else v.cells).size]!))=(cI n z).toArray:=by
  by_cases b:n*bA P e=0
  ·have:(cI n z).length=0:=by simp[cI,j,b]
   rw[bC.1 this];simp[b]
  ·simp only[if_neg b]
   rw[←f,Ha,c]
 have d:¬(n*bA P e>2^24):=by omega
 simp only[Instr.buildSlice,Sem.run_bind,ao (cJ m),Result.andThen_ok,o,if_neg d];by_cases b:n*bA P e=0
 ·simp only[if_pos b]at a
  simp only[if_pos b,Sem.run_bind,Sem.run_pure,Result.andThen_ok,a,g,iy]
 ·simp only[if_neg b]at a
  simp only[if_neg b,Sem.run_bind,Sem.run_pure,Result.andThen_ok,dE hv,a,g,iy]
theorem Ii{h:ad}{a:Addr}{vs:List Value}(b:Row h a vs):∀j v,vs[j]? =some v→aG h (a.add j)=some v:=fun j v hv=>by
 rw[←qo];exact b j v hv
theorem tC{size n cap len:Nat}{b:Option Addr}{vs:List Value}{w:World}(d:SRow w.heap b (n*size) vs):(Builtin.firstCells size n (.slice b len cap)).run P w=.ok vs.toArray w:=by
 obtain⟨c,a⟩:=d;cases b with
 |none=>
  rcases a with rfl|⟨_,h,_⟩
  ·simp[Builtin.firstCells]
  ·cases h
 |some b=>
  refine run_firstCells_some w size n b len cap vs c fun j v hv=>?_
  rcases a with rfl|⟨_,h,a⟩
  ·cases hv
  ·cases h;exact Ii a j v hv
theorem zS{a:Addr}{m:Nat}{xs:List Value}{w:World}(f:bH xs=true)(c:rc w.heap (some a) m xs):
  (storeCells (a.add m) xs).run P w=.ok () (ik w (gd w.heap a m xs)):=by
 rcases c with rfl|⟨b,e,c⟩
 ·rfl
 ·cases e
  have:=oC (P:=P) (a:=adr a m) xs 0 w f fun j d=>by rw[wC,aD];exact c j d
  rw[←qo,this,Ct,dL]
set_option maxHeartbeats 1000000 in
theorem AW{t e u ty:TypeId}{b:Option Addr}{sl f d:Nat}{xs:List Value}{x:Value}{K:WK}{w:World}(E:rU P t=some e)(k:(∃e',P.underlying u=some (.slice e'))∨P.underlying u=some .string)
  (g:∀w,(Builtin.lenOf x).run P w=.ok d w)(hx:∀w':World,w'.heap=w.heap→(Builtin.firstCells (bA P e) d x).run P w'=.ok xs.toArray w')
  (hi:∃i,P.info? e=some i)
  (h:Lb P e b sl f d xs K w.heap):Wv P (Builtin.append_ #[t,u] ty #[.slice b sl f,x]) K w:=by
 obtain⟨i,hi⟩:=hi;have j:bA P e=i.size:=by simp[bA,hi]
 have G:nD P e=i.bytes:=by simp[nD,hi]
 by_cases hc:sl+d≤f
 ·obtain⟨J,I,y⟩:=h.1 hc
  refine⟨_,_,?_,dB w (ey w.heap b (sl*bA P e) xs),y⟩;cases b with
  |none=>
   have c:=hx w rfl;rw[j]at c;rcases k with⟨e',hd⟩|hd<;>(simp[Builtin.append_,ao (cJ E),ao hd,sizeOf,bZ hi,g,hc,c];rfl)
  |some a=>
   have s:=zS (P:=P) I J;have c:=hx w rfl;rw[j]at s c;rcases k with⟨e',hd⟩|hd<;>(simp[Builtin.append_,ao (cJ E),ao hd,sizeOf,bZ hi,g,hc,c,s,ey,j])
 ·obtain⟨m,z,L,hz,A,D,y⟩:=h.2 (by omega)
  obtain⟨v,hv,C⟩:=ij hz;obtain⟨M,n,H⟩:=nZ hv;rw[hi]at n;cases n;rw[G]at A D;have p:¬i.bytes=0:=by omega
  have o:¬(281474976710656<Builtin.nextslicecap (sl+d) f*i.bytes):=by omega
  have c:=hx w.drew rfl;have q:(Builtin.firstCells (bA P e) sl (.slice b sl f)).run P w.drew=.ok m.toArray w.drew:=tC L;rw[j]at c q;have B:sl+d≤(Question.appendCap (sl+d) f e).cut (w.tape w.drawn (.appendCap (sl+d) f e)):=Nat.le_add_right _ _;refine⟨_,ik w.drew (hnew w.heap (m++xs++cI ((Question.appendCap (sl+d) f e).cut (w.tape w.drawn (.appendCap (sl+d) f e))-(sl+d)) z) e),?_,⟨rfl,rfl,rfl⟩,y _ B⟩
  have F:(Builtin.zeroCells v.cells ((Question.appendCap (sl+d) f e).cut (w.tape w.drawn (.appendCap (sl+d) f e))-(sl+d)))=(cI ((Question.appendCap (sl+d) f e).cut (w.tape w.drawn (.appendCap (sl+d) f e))-(sl+d)) z).toArray:=by
   apply cj;rw[gZ,C]
  rcases k with⟨e',hd⟩|hd<;>(simp[Builtin.append_,ao (cJ E),ao hd,sizeOf,bZ hi,g,hc,p,o,Question.forced,c,q,dE hv,iy,F,aC];rfl)
theorem Aw{t:TypeId}{K:Prop}(h:Kd P t K):∃i,P.info? t=some i:=by
 unfold Kd at h;cases hi:P.info? t with
 |none=>rw[hi]at h;exact h.elim
 |some i=>exact⟨i,rfl⟩
theorem wd{t:TypeId}(h:bA P t≠0):∃i,P.info? t=some i:=by
 cases hi:P.info? t with
 |none=>exact absurd (by simp[bA,hi]) h
 |some i=>exact⟨i,rfl⟩
theorem yF{size n:Nat}{x:ByteArray}{w:World}:(Builtin.firstCells size n (.string x)).run P w=.ok ((cT x).take n).toArray w:=by
 simp only[Builtin.firstCells,Sem.run_pure];congr 1
 apply cj;simp[cT,mp,ff,←List.map_take]
theorem ue{t u ty:TypeId}{s x:Value}{K:WK}{w:World}(c:(∃e',P.underlying u=some (.slice e'))∨P.underlying u=some .string)(h:y8 P t s x K w.heap):
  Wv P (Builtin.append_ #[t,u] ty #[s,x]) K w:=by
 unfold y8 at h;split at h
 ·rename_i e b sl sc a xl xc ht
  have hi:=Aw h;obtain⟨⟨xs,d,f⟩,hz⟩:=mG h;exact AW ht c (fun w=>rfl) (fun w' g=>tC (by rw[g];exact d)) hi f
 ·rename_i e b sl sc x ht
  cases hb:aY (bA P e) 1 with
  |false=>rw[hb]at h;exact h.elim
  |true=>
   rw[hb]at h;have i:=aI hb;have j:(cT x).length=x.size:=by simp[cT]
   refine AW ht c (fun w=>rfl) (fun w' _=>?_) (wd (by omega)) h
   rw[yF,bh (by omega)]
 ·exact h.elim
theorem xi{n:Int}(b:0≤n)(a:n≤9223372036854775807):IntKind.i64.wrap n=n:=IntWalk.i64_in n ⟨by omega,a⟩
theorem GO{t e u ty:TypeId}{b:Option Addr}{sl g:Nat}{k0 k:IntKind}{l:Int}{z:List Value}{K:WK}{w:World}(x:rU P t=some e)(y:P.underlying u=some (.int k0))
  (hz:nz P e=some z)(R:z.length=bA P e)(W:0≤l)(O:l*nD P e≤2^48)(T:l≤9223372036854775807)(Z:((sl+l.toNat:Nat):Int)≤9223372036854775807)
  (h:Lb P e b sl g l.toNat (cI l.toNat z) K w.heap):Wv P (Builtin.append_ #[t,u] ty #[.slice b sl g,.int k l]) K w:=by
 obtain⟨v,hv,E⟩:=ij hz;obtain⟨i,hi,V⟩:=nZ hv;have j:bA P e=i.size:=by simp[bA,hi]
 have H:nD P e=i.bytes:=by simp[nD,hi]
 have A:IntKind.wrap .i64 l=l:=xi W T;have d:¬l<0:=by omega
 rw[H]at O;have c:¬(281474976710656:Int)<l*i.bytes:=by omega
 have f:∀w':World,(asInt (.int k l)).run P w'=.ok l w':=fun w'=>rfl
 have C:(Builtin.zeroCells v.cells l.toNat)=(cI l.toNat z).toArray:=by apply cj;rw[gZ,E]
 have q:l.toNat*i.size=0→cI l.toNat z= []:=fun Q=>by
  have G:(cI l.toNat z).length=l.toNat*i.size:=by rw[←j,←R];unfold cI;simp
  exact bC.1 (by rw[G,Q])
 by_cases hc:sl+l.toNat≤g
 ·obtain⟨M,O,I⟩:=h.1 hc
  refine⟨_,_,?_,dB w (ey w.heap b (sl*bA P e) (cI l.toNat z)),I⟩;cases b with
  |none=>
   by_cases m:l.toNat*i.size=0
   ·simp[Builtin.append_,ao (cJ x),ao y,sizeOf,bZ hi,f,A,d,c,hc,m];rfl
   ·simp[Builtin.append_,ao (cJ x),ao y,sizeOf,bZ hi,f,A,d,c,hc,dE hv];rfl
  |some a=>
   have n:=zS (P:=P) O M;rw[j]at n;by_cases m:l.toNat*i.size=0
   ·rw[q m]at n
    simp[Builtin.append_,ao (cJ x),ao y,sizeOf,bZ hi,f,A,d,c,hc,n,ey,j,m,q m]
   ·simp[Builtin.append_,ao (cJ x),ao y,sizeOf,bZ hi,f,A,d,c,hc,n,ey,j,m,dE hv,C]
 ·obtain⟨B,z',Y,D,J,N,I⟩:=h.2 (by omega)
  rw[hz]at D;cases D;rw[H]at J N;have S:¬i.bytes=0:=by omega
  have p:¬(281474976710656<Builtin.nextslicecap (sl+l.toNat) g*i.bytes):=by omega
  have X:¬(9223372036854775807:Int)<((sl:Int)+(l.toNat:Int)):=by omega
  have o:¬(9223372036854775807:Int)<((sl:Int)+max l 0):=by omega
  have s:(Builtin.firstCells (bA P e) sl (.slice b sl g)).run P w.drew=.ok B.toArray w.drew:=tC Y;rw[j]at s;have L:sl+l.toNat≤(Question.appendCap (sl+l.toNat) g e).cut (w.tape w.drawn (.appendCap (sl+l.toNat) g e)):=Nat.le_add_right _ _;refine⟨_,ik w.drew (hnew w.heap (B++cI l.toNat z++cI ((Question.appendCap (sl+l.toNat) g e).cut (w.tape w.drawn (.appendCap (sl+l.toNat) g e))-(sl+l.toNat)) z) e),?_,⟨rfl,rfl,rfl⟩,I _ L⟩
  have F:(Builtin.zeroCells v.cells ((Question.appendCap (sl+l.toNat) g e).cut (w.tape w.drawn (.appendCap (sl+l.toNat) g e))-(sl+l.toNat)))=(cI ((Question.appendCap (sl+l.toNat) g e).cut (w.tape w.drawn (.appendCap (sl+l.toNat) g e))-(sl+l.toNat)) z).toArray:=by
   apply cj;rw[gZ,E]
  by_cases m:l.toNat*i.size=0
  ·rw[q m]at I⊢
   simp[Builtin.append_,ao (cJ x),ao y,sizeOf,bZ hi,f,A,d,c,hc,o,p,Question.forced,s,dE hv,iy,F,aC,m];rfl
  ·simp[Builtin.append_,ao (cJ x),ao y,sizeOf,bZ hi,f,A,d,c,hc,o,p,Question.forced,s,dE hv,iy,F,aC,m,C];rfl
theorem zE{t u ty:TypeId}{k0:IntKind}{s x:Value}{K:WK}{w:World}(c:P.underlying u=some (.int k0))(h:zF P t s x K w.heap):
  Wv P (Builtin.append_ #[t,u] ty #[s,x]) K w:=by
 unfold zF at h;split at h
 ·rename_i e b sl sc k l ht
  split at h
  ·rename_i z hz
   cases hb:aY z.length (bA P e)with
   |false=>rw[hb]at h;exact h.elim
   |true=>
    rw[hb]at h;obtain⟨⟨i,d,g,f⟩,a⟩:=h;exact GO ht c hz (aI hb) i d g f a
  ·exact h.elim
 ·exact h.elim
theorem jN:∀{a b:List Value},bH a=true→bH b=true→bH (a++b)=true
 | [],_,_,h=>h
 |v::a,b,h,k=>by
  simp only[bH,dt,aV]at h⊢;exact⟨h.1,jN h.2 k⟩
theorem vT{z:List Value}(h:bH z=true):∀n,bH (cI n z)=true
 |0=>rfl
 |n+1=>by
  have:cI (n+1) z=z++cI n z:=by simp[cI,List.replicate_succ]
  rw[this];exact jN h (vT h n)
theorem CP{t ty:TypeId}{x:Value}{K:WK}{w:World}(h:Fy P t x K w.heap):Wv P (Builtin.clear_ #[t] ty #[x]) K w:=by
 unfold Fy at h;split at h
 ·rename_i e a n c ht
  split at h
  ·rename_i z hz
   obtain⟨v,hv,f⟩:=ij hz;cases ho:bH z with
   |false=>rw[ho]at h;exact h.elim
   |true=>
    rw[ho]at h;obtain⟨i,g⟩:=h;refine⟨_,_,?_,dB w (ey w.heap a 0 (cI n z)),g⟩;cases a with
    |none=>simp[Builtin.clear_,ao (cJ ht)];rfl
    |some a=>
     cases n with
     |zero=>simp[Builtin.clear_,ao (cJ ht)];rfl
     |succ n=>
      have b:=zS (P:=P) (vT ho (n+1)) i;rw[←qo,AY]at b;have d:(Builtin.zeroCells v.cells (n+1)).toList=cI (n+1) z:=by rw[gZ,f]
      simp[Builtin.clear_,ao (cJ ht),dE hv,d,b,ey]
  ·exact h.elim
 ·exact h.elim
theorem vU:∀(xs:List Value) (n:Nat),bH xs=true→bH (xs.take n)=true
 | [],n,_=>by simp[bH]
 |x::xs,0,_=>by simp[bH]
 |x::xs,n+1,h=>by
  simp only[bH,aV,List.take_succ_cons]at h⊢;exact⟨h.1,vU xs n h.2⟩
theorem Bo(x:ByteArray):bH (cT x)=true:=by
 have:∀l:List UInt8,bH (l.map fun b=>.int .u8 (b.toNat:Int))=true:=by
  intro l;induction l with
  |nil=>rfl
  |cons b l ih=>simp[bH,ih]
 exact this _
theorem D9{t u ty:TypeId}{d s:Value}{K:WK}{w:World}(h:Jx P t d s K w.heap):Wv P (Builtin.copy_ #[t,u] ty #[d,s]) K w:=by
 unfold Jx at h;split at h
 ·rename_i e b dl dc a sl sc ht
  obtain⟨⟨xs,n,k,o,j⟩,hz⟩:=mG h;refine⟨_,_,?_,dB w (ey w.heap b 0 xs),j⟩;have g:=tC (P:=P) (len:=sl) (cap:=sc) n;cases b with
  |none=>simp[Builtin.copy_,ao (cJ ht),Builtin.lenOf,hz,g,goInt];rfl
  |some c=>
   have f:=zS (P:=P) (m:=0) o k;simp only[Addr.add,if_pos]at f;simp[Builtin.copy_,ao (cJ ht),Builtin.lenOf,hz,g,goInt,f,ey]
 ·rename_i e b dl dc x ht
  cases hb:aY (bA P e) 1 with
  |false=>rw[hb]at h;exact h.elim
  |true=>
   rw[hb]at h;have o:=aI hb;obtain⟨i,hi⟩:=wd (P:=P) (t:=e) (by omega);have hz:(sizeOf e).run P w=.ok (bA P e) w:=by simp[sizeOf,bZ hi,bA,hi]
   obtain⟨k,j⟩:=h;have q:(cT x).length=x.size:=by simp[cT]
   have p:(cT x).take (cP x.size dl)=(cT x).take dl:=by
    by_cases hx:x.size≤dl
    ·rw[show cP x.size dl=x.size from Nat.min_eq_left hx,bh (by omega),bh (by omega)]
    ·rw[show cP x.size dl=dl from Nat.min_eq_right (by omega)]
   have g:(Builtin.firstCells (bA P e) (cP x.size dl) (.string x)).run P w=.ok ((cT x).take dl).toArray w:=by
    rw[yF,p]
   refine⟨_,_,?_,dB w (ey w.heap b 0 ((cT x).take dl)),j⟩;cases b with
   |none=>simp[Builtin.copy_,ao (cJ ht),Builtin.lenOf,hz,g,goInt];rfl
   |some c=>
    have f:=zS (P:=P) (m:=0) (vU _ dl (Bo x)) k;simp only[Addr.add,if_pos]at f;simp[Builtin.copy_,ao (cJ ht),Builtin.lenOf,hz,g,goInt,f,ey]
 ·exact h.elim
theorem Ho(k v:Value)(a:Nat):∀(es:List MapEntry),(match es.findIdx? (fun e=>fI k e.key)with
  |some i=>(es.modify i (fun e=>{e with key:=k,val:=v}),a)
  |none=>(es++ [{key:=k,val:=v,born:=a}],a+1))=F6 k v a es
 | []=>rfl
 |e::es=>by
  have b:=Ho k v a es;simp only[F6,List.findIdx?_cons];cases hk:fI k e.key with
  |true=>simp[List.modify]
  |false=>
   simp only[eh,if_false];rw[←b];cases hf:es.findIdx? (fun e=>fI k e.key)with
   |none=>simp
   |some i=>simp[List.modify]
theorem sQ{d:TypeDesc}{c:CK}(hd:l8 d c)(x:c.den):∀(es:List MapEntry) (i:Nat),Au c es→
  Instr.findNow d (c.enc x) es i=some (match es.findIdx? (fun e=>fI (c.enc x) e.key)with
   |some j=>(es[j]?).map fun e=>(i+j,e.val)
   |none=>none)
 | [],i,_=>rfl
 |e::es,i,h=>by
  obtain⟨y,g⟩:=h e (by simp);have b:=yo hd x y;rw[←g]at b;have f:=sQ hd x es (i+1) fun e' a=>h e' (by simp[a])
  simp only[Instr.findNow,List.findIdx?_cons,b];cases hb:fI (c.enc x) e.key with
  |true=>simp
  |false=>
   simp only[eh,if_false];rw[f];cases hf:es.findIdx? (fun e=>fI (c.enc x) e.key)with
   |none=>simp
   |some j=>simp[qt,Nat.add_comm 1 j]
theorem yY{a b:ByteArray}(h:(a==b)=true):a=b:=by
 cases a with|mk a=>cases b with|mk b=>
 have h:(a==b)=true:=h;rw[eq_of_beq h]
theorem AS(a:ByteArray):(a==a)=true:=by
 cases a with|mk a=>
 exact beq_self_eq_true a
theorem CY{d:TypeDesc}{c:CK}(hd:l8 d c)(x y:c.den)(h:fI (c.enc x) (c.enc y)=true):Instr.sameBits 10000 (c.enc y) (c.enc x)=true:=by
 rcases hd with⟨i,rfl,rfl⟩|⟨rfl,rfl⟩|⟨rfl,rfl⟩
 ·have h:x=y:=eq_of_beq (α:=Int) h
  subst h;have:∀n:Int,(i==i&&n==n)=true:=fun n=>by simp
  exact this x
 ·have h:x=y:=yY h
  subst h;exact AS x
 ·have h:x=y:=eq_of_beq (α:=Bool) h
  subst h;exact beq_self_eq_true (α:=Bool) x
theorem rl{w:World}{r:Nat}{es:Array MapEntry}{a:Nat}{o:Obj}(h:w.heap[r]? =some (.map es a)):(setObj r o).run P w=.ok () (ik w (w.heap.setIfInBounds r o)):=by
 simp only[setObj,Sem.run,h];rfl
theorem Gg{t k e:TypeId}{d:TypeDesc}{c:CK}(A:P.underlying t=some (.map k e))(s:P.underlying k=some d)(hd:l8 d c){r:Nat}{x:c.den}{v:Value}{w:World}(hm:HU c w.heap r):
  (Instr.mapUpdate t (.map (some r)) (c.enc x) v).run P w=.ok () (ik w (LR w.heap r (c.enc x) v)):=by
 obtain⟨es,a,j,f⟩:=hm;obtain⟨q,B,b,C⟩:=ry (P:=P) hd s x f w;rw[sQ hd x es.toList 0 f]at b;have g:=Ho (c.enc x) v a es.toList;have o:LR w.heap r (c.enc x) v=w.heap.setIfInBounds r (.map (F6 (c.enc x) v a es.toList).1.toArray (F6 (c.enc x) v a es.toList).2):=by
  simp only[LR,j]
 rw[o,←g];simp only[Instr.mapUpdate,Sem.run_bind,ao A,Result.andThen_ok,jw j,kL hd s,B];cases hf:es.toList.findIdx? (fun e=>fI (c.enc x) e.key)with
 |none=>
  rw[hf]at b;simp only[bi.injEq]at b;subst b;simp only[rl j];congr 4
  apply cj;simp
 |some i=>
  rw[hf]at b;simp only[bi.injEq]at b;obtain⟨hi,p,_⟩:=List.findIdx?_eq_some_iff_getElem.1 hf;have u:es.toList[i]? =some es.toList[i]:=ag hi;rw[u]at b;simp only[fQ,aD]at b;subst b;have m:es[i]? =some es.toList[i]:=by rw[←aR];exact u
  obtain⟨y,z⟩:=f es.toList[i] (List.getElem_mem hi);have n:Instr.sameBits 10000 (es.toList[i]).key (c.enc x)=true:=by
   rw[z]at p⊢;exact CY hd x y p
  simp only[m,fQ,Option.getD_some,Instr.keyThatStays,n,if_true,Sem.run_bind,Sem.run_pure,Result.andThen_ok,rl j];congr 4
  apply cj;simp
theorem ud{t:TypeId}{m k v:Value}{K:WK}{w:World}(h:y7 P t m k v K w.heap):Wu P (Instr.mapUpdate t m k v) K w:=by
 unfold y7 at h;split at h
 ·rename_i c e m hc
  obtain⟨i,d,b,a,hd⟩:=sL hc;obtain⟨g,rfl,r,rfl,hm,f⟩:=CK.dec_sound h;exact⟨_,Gg b a hd hm,dB _ _,f⟩
 ·exact h.elim
theorem E1(k:Value):∀(es:List MapEntry),(match es.findIdx? (fun e=>fI k e.key)with
  |some i=>es.eraseIdx i
  |none=>es)=E2 k es
 | []=>rfl
 |e::es=>by
  have a:=E1 k es;simp only[E2,List.findIdx?_cons];cases hk:fI k e.key with
  |true=>simp
  |false=>
   simp only[eh,if_false];rw[←a];cases hf:es.findIdx? (fun e=>fI k e.key)<;>simp
theorem EL{t k e ty:TypeId}{ts:Array TypeId}{d:TypeDesc}{c:CK}(s:ts[0]? =some t) (u:P.underlying t=some (.map k e)) (p:P.underlying k=some d) (hd:l8 d c) {r:Nat} {x:c.den} {w:World} (hm:HU c w.heap r):
  (Builtin.delete_ ts ty #[.map (some r),c.enc x]).run P w=.ok (.tuple #[]) (ik w (Hw w.heap r (c.enc x))):=by
 obtain⟨es,g,m,j⟩:=hm;obtain⟨q,v,a,A⟩:=ry (P:=P) hd p x j w;rw[sQ hd x es.toList 0 j]at a;have f:=E1 (c.enc x) es.toList;have n:Hw w.heap r (c.enc x)=w.heap.setIfInBounds r (.map (E2 (c.enc x) es.toList).toArray g):=by
  simp only[Hw,m]
 rw[n,←f];simp only[Builtin.delete_,s,List.getElem?_toArray,List.getElem?_cons_zero,List.getElem?_cons_succ,Sem.run_bind,ao u,Result.andThen_ok,jw m,kL hd p,v];cases hf:es.toList.findIdx? (fun e=>fI (c.enc x) e.key)with
 |none=>
  rw[hf]at a;simp only[bi.injEq]at a;subst a;simp[rl m]
 |some i=>
  rw[hf]at a;simp only[bi.injEq]at a;obtain⟨hi,z,_⟩:=List.findIdx?_eq_some_iff_getElem.1 hf;have y:es.toList[i]? =some es.toList[i]:=ag hi;rw[y]at a;simp only[fQ,aD]at a;subst a;have o:i<es.size:=by simpa using hi
  have b:es.eraseIdxIfInBounds i=(es.toList.eraseIdx i).toArray:=by
   apply cj;simp[Array.eraseIdxIfInBounds,o]
  simp[rl m,b]
theorem zC{t ty:TypeId}{ts:Array TypeId}{m k:Value}{K:WK}{w:World}(b:ts[0]? =some t) (h:zD P t m k K w.heap):Wv P (Builtin.delete_ ts ty #[m,k]) K w:=by
 unfold zD at h;split at h
 ·rename_i c e m hc
  obtain⟨j,d,f,g,hd⟩:=sL hc;obtain⟨i,rfl,h⟩:=CK.dec_sound h;rcases h with⟨rfl,a⟩|⟨r,rfl,hm,a⟩
  ·refine⟨_,w,?_,Tame.refl w,a⟩
   simp[Builtin.delete_,b,ao f,kL hd g]
  ·exact⟨_,_,EL b f g hd hm,dB _ _,a⟩
 ·exact h.elim
theorem Im{t k e:TypeId}(b:P.underlying t=some (.map k e)){m:Option Nat}{a:Nat}{w:World}(hm:m=none∧a=0∨∃r es,m=some r∧w.heap[r]? =some (.map es a)):
  (Instr.range t (.map m)).run P w=.ok (.pointer (some (aC w.heap))) (ik w (w.heap.push (.mapIter m a #[] a))):=by
 rcases hm with⟨rfl,rfl⟩|⟨r,es,rfl,c⟩
 ·simp only[Instr.range,Sem.run_bind,ao b,Result.andThen_ok,Sem.run_pure,Ab,aC]
 ·simp only[Instr.range,Sem.run_bind,ao b,Result.andThen_ok,Sem.run_pure,jw c,Ab,aC]
theorem sF{w:World}{i:Nat}{m:Option Nat}{a:Nat}{c:Array Nat}{b:Nat}(h:w.heap[i]? =some (.mapIter m a c b)):(getObj i).run P w=.ok (.mapIter m a c b) w:=by
 simp only[getObj,Sem.run,h]
theorem Em{w:World}{i:Nat}{m:Option Nat}{a:Nat}{c:Array Nat}{b:Nat}{o:Obj}(h:w.heap[i]? =some (.mapIter m a c b)):(setObj i o).run P w=.ok () (ik w (w.heap.setIfInBounds i o)):=by
 simp only[setObj,Sem.run,h];rfl
theorem AP(n:Nat)(a:0<n)(w:World):∃k w',k<n∧(choose (.mapNext n)).run P w=.ok k w'∧Tame w w'∧w'.heap=w.heap:=by
 unfold choose;simp only[Sem.run];by_cases h:(Question.mapNext n).forced=true
 ·exact⟨0,w,a,by rw[if_pos h],Tame.refl w,rfl⟩
 ·refine⟨(Question.mapNext n).cut (w.tape w.drawn (.mapNext n)),{w with drawn:=w.drawn+1},Nat.mod_lt _ a,by rw[if_neg h],⟨rfl,rfl,rfl⟩,rfl⟩
theorem D8{it:Value}{t:TypeId}{K:WK}{w:World}(h:Jw it K w.heap):Wv P (Instr.next it false t) K w:=by
 unfold Jw at h;split at h
 ·rename_i a
  obtain⟨N,m,n,f,s,hi,h⟩:=h;obtain⟨b,off,O⟩:=a;simp only at N hi h;subst N;rcases h with⟨rfl,S⟩|⟨r,es,z,rfl,L,E,B,I⟩
  ·exact⟨_,w,by simp only[Instr.next,Sem.run_bind,sF hi,Result.andThen_ok,Sem.run_pure],Tame.refl w,S⟩
  ·have v:(!f.isEmpty&& !es.isEmpty&&es.all (fun e=>decide (e.born≥s)))=false:=by
    rcases E with h|h|h<;>simp[h]
   obtain⟨left,j⟩:∃left,left=es.filter fun e=> !f.contains e.born:=⟨_,rfl⟩
   obtain⟨i,q⟩:∃i,i=left.filter (·.born<n):=⟨_,rfl⟩
   obtain⟨new,hnew⟩:∃new,new=left.filter (·.born≥n):=⟨_,rfl⟩
   obtain⟨d,g⟩:∃d:Array (Option MapEntry),d=(if i.isEmpty then #[none]else #[])++(i++new).map some:=⟨_,rfl⟩
   have D:0<d.size:=by
    rw[g];by_cases A:i.isEmpty=true
    ·simp[A];omega
    ·have:i.size≠0:=by simpa using A
     simp[A];omega
   obtain⟨k,F,Q,y,M,J⟩:=AP (P:=P) d.size D w;obtain⟨c,hc⟩:∃c,d[k]? =some c:=⟨d[k],Array.getElem?_eq_getElem Q⟩;have G:F.heap[b]? =some (.mapIter (some r) n f s):=by rw[J];exact hi
   have o:(!f.isEmpty&& !es.isEmpty&&es.all fun x=>decide (x.born≥s))=false:=v
   cases c with
   |none=>
    refine⟨.tuple #[.bool false],F,?_,M,?_⟩
    ·simp only[Instr.next,Sem.run_bind,sF hi,Result.andThen_ok,Sem.run_pure,jw L,o,eh,if_false,←j,←q,←hnew,←g,y,hc]
    ·rw[J]
     have u:i.isEmpty=true:=by
      have hm:none∈d:=mA hc;rw[g]at hm;by_cases A:i.isEmpty=true
      ·exact A
      ·simp[A]at hm
     refine B fun e R H=>?_
     cases hs:f.contains e.born with
     |true=>rfl
     |false=>
      have p:e∈i:=by
       rw[q,j];simp only[mS];exact⟨⟨by simpa using R,by rw[hs];rfl⟩,by simpa using H⟩
      rw[Array.isEmpty_iff]at u;rw[u]at p;simp at p
   |some e=>
    have p:e∈es∧f.contains e.born=false:=by
     have hm:some e∈d:=mA hc;have C:e∈left:=by
      rw[g]at hm;rw[Array.mem_append]at hm;rcases hm with hm|hm
      ·split at hm<;>simp at hm
      ·simp only[Array.mem_map,bi.injEq,exists_eq_right,Array.mem_append]at hm
       rcases hm with hm|hm
       ·rw[q]at hm;exact(mS.1 hm).1
       ·rw[hnew]at hm;exact(mS.1 hm).1
     rw[j]at C;have:=mS.1 C;exact⟨this.1,by simpa using this.2⟩
    refine⟨.tuple #[.bool true,e.key,e.val],ik F (F.heap.setIfInBounds b (.mapIter (some r) n (f.push e.born) z)),?_,M.trans (dB _ _),?_⟩
    ·simp only[Instr.next,Sem.run_bind,sF hi,Result.andThen_ok,Sem.run_pure,jw L,o,eh,if_false,←j,←q,←hnew,←g,y,hc,Em G]
    ·rw[J]
     exact I e (by simpa using p.1) p.2
 ·exact h.elim
theorem Bq{t e:TypeId}{z:List Value}{k k':IntKind}{l c:Int}{w:World}(q:rU P t=some e)(hz:nz P e=some z)(f:z.length=bA P e)(B:0≤l)(C:l≤c)(A:c≤9223372036854775807)(y:nD P e*c≤2^48):
  (Instr.makeSlice t (.int k l) (.int k' c)).run P w=.ok (.slice (some (aC w.heap)) l.toNat c.toNat) (ik w (hnew w.heap (cI c.toNat z) e)):=by
 obtain⟨v,hv,g⟩:=ij hz;obtain⟨i,hi,x⟩:=nZ hv;have d:bA P e=i.size:=by simp[bA,hi]
 have n:nD P e=i.bytes:=by simp[nD,hi]
 have o:v.cells.size=i.size:=by rw[←d,←f,←g];simp
 have u:=xi B (by omega);have hc:=xi (show 0≤c by omega) A
 rw[n]at y;have c1:¬(c<0):=by omega
 have c2:¬(281474976710656<(i.bytes:Int)*c):=by omega
 have p:¬(l<0):=by omega
 have s:¬(c<l):=by omega
 by_cases a:c.toNat*i.size=0
 ·have m:(cI c.toNat z).length=0:=by simp[cI,f,d,a]
  rw[bC.1 m];simp[Instr.makeSlice,ao (cJ q),asInt,asIntOf,bZ hi,u,hc,c1,c2,p,s,sizeOf,a,iy]
 ·have b:((Array.range (c.toNat*i.size)).map (fun j=>v.cells[j%v.cells.size]!))=(cI c.toNat z).toArray:=by
   rw[←o,Ha,g]
  have key:(newRow e ((Array.range (c.toNat*i.size)).map (fun j=>v.cells[j%v.cells.size]!))).run P w=.ok (aC w.heap) (ik w (hnew w.heap (cI c.toNat z) e)):=by
   rw[b,iy]
  simp[Instr.makeSlice,ao (cJ q),asInt,asIntOf,bZ hi,u,hc,c1,c2,p,s,sizeOf,a,dE hv];rw[key];rfl
theorem Agree.args{N:Nat}{r:bP}{a:Act}(h:Agree N r a){os:Array Operand}{vs:List Value}(hv:lg r os.toList=some vs):os.map a.eval=vs.toArray:=by
 rw[←jL h hv];apply cj;simp
theorem HC.out{f:FuncId}{args:List Value}{ks:List Kind}{K:WK}{w:World}(h:HC P f args ks (fun x h'=>K (yS ks (ki ks x)) h') w.heap):E9 P (callFunc f args.toArray) K w:=by
 rcases h.run w rfl with⟨a,d⟩|⟨v,w',a,c,x,rfl,b⟩
 ·refine .inr (.inr (.inl ⟨f,args.toArray,a,d.mono ?_⟩))
  rintro e w' ⟨c,x,rfl,b⟩;exact⟨c,_,rfl,b⟩
 ·exact .inl ⟨_,w',a,c,b⟩
theorem IZ{a b e:TypeId}{s:ByteArray}{w:World}(g:P.underlying a=some .string)(hd:P.underlying b=some (.slice e))(j:P.underlying e=some (.int .u8)):
  ∃c,s.size≤c∧(convert a b (.string s)).run P w=.ok (.slice (some (aC w.heap)) s.size c) (ik w.drew (w.heap.push (.cells (cT s++gi (c-s.size) (Value.int .u8 0)).toArray e (c,c+1)))):=by
 have f:s.size≤grownCap w s.size 0 e:=Nat.le_add_right _ _;refine⟨_,f,?_⟩;rw[Go.Lib.run_convert_string_bytes w a b e s g hd j];have hc:(Go.Lib.bytesCells w e s).size=grownCap w s.size 0 e:=by
  unfold Go.Lib.bytesCells;rw[Array.size_append,Array.size_map,Array.size_replicate,show s.data.size=s.size from rfl]
  omega
 have d:(cT s++gi (grownCap w s.size 0 e-s.size) (Value.int .u8 0)).toArray=Go.Lib.bytesCells w e s:=by
  unfold Go.Lib.bytesCells cT;apply cj;simp
 rw[d];unfold Go.Lib.bytesWorld World.freeze;rw[if_neg (by omega),hc];unfold World.alloc World.drew ik;congr 1
 congr 1
 apply Array.ext (by simp);intro i m k;rw[Array.getElem_modify];simp only[Array.getElem_push];split
 ·rename_i e
  subst e;simp
 ·rename_i e
  have hi:i<w.heap.size:=by simp at k;omega
  rw[dif_pos hi,dif_pos hi]
theorem xk{o:Oper}{r:bP}{K:WK}{w:World}{N:Nat}{a:Act}(D:Agree N r a)(j:Bh P o r K w.heap):E9 P (execOp a.eval o) K w:=by
 have A:∀{x:Operand} {v:Value},cA r x=some v→a.eval x=v:=fun h=>im D h
 obtain⟨R,W,type,lh,E,H⟩:=o;cases W with
 |alloc t=>
  simp only[Bh]at j;split at j
  ·rename_i z hz
   obtain⟨v,hv,M⟩:=ij hz;have C:(Instr.alloc t true (.tuple #[])).run P w=.ok (.pointer (some (aC w.heap))) (ik w (hnew w.heap z t)):=by
    simp[Instr.alloc,dE hv,newVar,iy,M]
   exact Wv.out ⟨_,_,C,dB _ _,j⟩
  ·exact j.elim
 |box t x=>
  simp only[Bh]at j;split at j
  ·rename_i v hv
   have C:(Instr.box t v).run P w=.ok (.pointer (some (aC w.heap))) (ik w (hnew w.heap v.cells.toList t)):=by
    simp[Instr.box,newVar,iy]
   simp only[execOp,A hv];exact Wv.out ⟨_,_,C,dB _ _,j⟩
  ·exact j.elim
 |build t ps=>
  simp only[Bh]at j;split at j
  ·rename_i vs p
   split at j
   ·rename_i cs hcs
    have V:(ps.map fun x=>(x.1,a.eval x.2))=vs.toArray:=by
     rw[←lP D p];apply cj;simp
    have C:=wy (ps:=vs.toArray) (by simpa using hcs) w;simp only[execOp];rw[show(ps.map fun(i,x)=>(i,a.eval x))=vs.toArray from V]
    exact Wv.out ⟨_,w,C,Tame.refl w,j⟩
   ·exact j.elim
  ·exact j.elim
 |buildSlice t n ps=>
  simp only[Bh]at j;split at j
  ·rename_i e vs G p
   split at j
   ·rename_i z hz
    cases hb:(tN (n*bA P e) 16777216&&aY z.length (bA P e))with
    |false=>rw[hb]at j;exact j.elim
    |true=>
     rw[hb]at j;simp only[aV]at hb;simp only[cond_true]at j;split at j
     ·rename_i cs hcs
      have V:(ps.map fun x=>(x.1,a.eval x.2))=vs.toArray:=by
       rw[←lP D p];apply cj;simp
      have C:=xJ (ps:=vs.toArray) G hz (gp hb.1) (aI hb.2) (by simpa using hcs) w;simp only[execOp];rw[show(ps.map fun(i,x)=>(i,a.eval x))=vs.toArray from V]
      exact Wv.out ⟨_,_,C,dB _ _,j⟩
     ·exact j.elim
   ·exact j.elim
  ·exact j.elim
 |store t x y=>
  simp only[Bh]at j;split at j
  ·rename_i b v hb hv
   simp only[execOp,A hb,A hv];exact Wu.out (CO j)
  ·exact j.elim
 |mapUpdate t m k x=>
  simp only[Bh]at j;split at j
  ·rename_i mv kv xv hm B hx
   simp only[execOp,A hm,A B,A hx];exact Wu.out (ud j)
  ·exact j.elim
 |insert t m k x=>
  simp only[Bh]at j;split at j
  ·rename_i mv kv xv hm B hx
   simp only[execOp,A hm,A B,A hx];exact Wu.out (ud j)
  ·exact j.elim
 |makeMap t n=>
  simp only[Bh]at j;cases n with
  |none=>exact Wv.out ⟨_,ik w (w.heap.push (.map #[] 0)),by simp[Instr.makeMap];rfl,dB _ _,j⟩
  |some n=>
   simp only at j;split at j
   ·rename_i k i hn G
    exact Wv.out ⟨_,ik w (w.heap.push (.map #[] 0)),by simp[Instr.makeMap,A hn,ao G,asInt,asIntOf];rfl,dB _ _,j⟩
   ·exact j.elim
 |makeSlice t l c=>
  simp only[Bh]at j;split at j
  ·rename_i e k l' k' c' G S hc
   split at j
   ·rename_i z hz
    cases hb:aY z.length (bA P e)with
    |false=>rw[hb]at j;exact j.elim
    |true=>
     rw[hb]at j;obtain⟨⟨Y,Q,L,X⟩,j⟩:=j;simp only[execOp,A S,A hc];exact Wv.out ⟨_,_,Bq G hz (aI hb) Y Q L X,dB _ _,j⟩
   ·exact j.elim
  ·exact j.elim
 |convert s d x=>
  simp only[Bh]at j;split at j
  ·rename_i e v J hd hx
   cases hu:Gp P e with
   |false=>rw[hu]at j;exact j.elim
   |true=>
    rw[hu]at j;obtain⟨c,hc,I⟩:=IZ (w:=w) (s:=v) J hd (Av hu);simp only[execOp,A hx];exact Wv.out ⟨_,_,I,⟨rfl,rfl,rfl⟩,j c hc⟩
  ·exact j.elim
 |range t x=>
  simp only[Bh]at j;split at j
  ·rename_i k e m hu hx
   obtain⟨O,hm,j⟩:=j;simp only[execOp,A hx];exact Wv.out ⟨_,_,Im hu hm,dB _ _,j⟩
  ·exact j.elim
 |next it isS=>
  cases isS with
  |true=>simp only[Bh]at j
  |false=>
   simp only[Bh]at j;split at j
   ·rename_i v hv
    simp only[execOp,A hv];exact Wv.out (D8 j)
   ·exact j.elim
 |call c=>
  simp only[Bh]at j;have eb:∀{b:Builtin} {vs:List Value},c.callee=.builtin b→lg r c.args.toList=some vs→∃cs:Array Bool,∀w,(execOp a.eval ⟨R,.call c,type,lh,E,H⟩).run P w=
    (builtin b c.argTypes type cs vs.toArray).run P w:=by
   intro b vs hc p;refine⟨c.args.map fun| .const _=>true|_=>false,fun w=>?_⟩
   simp[execOp,resolve,hc,D.args p,invoke];rfl
  have wo:∀{s s':Sem Next},(∀w,s.run P w=s'.run P w)→E9 P s' K w→E9 P s K w:=by
   intro s s' C h;unfold E9 at h⊢;simp only[C];exact h
  split at j
  ·rename_i s x hc p
   split at j
   ·rename_i t u hat
    obtain⟨cs,F⟩:=eb hc p;refine wo F ?_;have q:c.argTypes= #[t,u]:=by apply cj;rw[hat]
    simp only[builtin,q];split at j
    ·rename_i e' hu;exact Wv.out (ue (.inl ⟨e',hu⟩) j)
    ·rename_i hu;exact Wv.out (ue (.inr hu) j)
    ·rename_i k0 hu;exact Wv.out (zE hu j)
    ·exact j.elim
   ·exact j.elim
  ·rename_i x hc p
   split at j
   ·rename_i t hat
    obtain⟨cs,F⟩:=eb hc p;refine wo F ?_;have q:c.argTypes= #[t]:=by apply cj;rw[hat]
    simp only[builtin,q];exact Wv.out (CP j)
   ·exact j.elim
  ·rename_i s x hc p
   split at j
   ·rename_i t u hat
    obtain⟨cs,F⟩:=eb hc p;refine wo F ?_;have q:c.argTypes= #[t,u]:=by apply cj;rw[hat]
    simp only[builtin,q];exact Wv.out (D9 j)
   ·exact j.elim
  ·rename_i m k hc p
   split at j
   ·rename_i t u hat
    obtain⟨cs,F⟩:=eb hc p;refine wo F ?_;simp only[builtin];exact Wv.out (zC (by rw[←aR,hat];rfl) j)
   ·exact j.elim
  ·rename_i f args hc p
   unfold Mf at j;split at j
   ·exact j.elim
   ·rename_i ks hks
    split at j
    ·rename_i f
     refine wo (s':=callFunc f args.toArray) (fun w=>?_) j.out
     simp[execOp,resolve,hc,D.args p,Act.eval,Deferred.ofValue,invoke]
    ·rename_i f hf
     split at j
     ·rename_i fv hfv
      rcases j.run with⟨g,first,cap,rfl,T⟩|⟨l,rfl,T⟩
      rotate_left
      ·obtain⟨fn,tmps,assign,body,Q,L⟩:=T.run w rfl
       refine .inr (.inr (.inr ⟨l,fn,tmps,assign,body,?_,fun c cs=>?_⟩))
       ·rw[←Q]
        simp[execOp,resolve,hc,D.args p,A hfv,Deferred.ofValue,invoke]
       ·obtain⟨b,w',G,B,J⟩:=L c cs
        refine⟨b,w',G,?_,J⟩;obtain⟨t,e,B⟩:=oQ B;have S:ks.length=1:=by rw[←pD ks t,←e];rfl
        match ks,S,t,e,B with
        | [k],_,t,e,B=>rw[←e]at B;exact B
      refine wo (s':=callFunc g (first.toList++args++cap.toList).toArray) (fun w=>?_) T.out
      have e:first++args.toArray++cap=(first.toList++args++cap.toList).toArray:=by apply cj;simp
      rw[←e];simp[execOp,resolve,hc,D.args p,A hfv,Deferred.ofValue,invoke]
     ·exact j.elim
  ·exact j.elim
 |_=>simp only[Bh]at j
end Go.Lift
