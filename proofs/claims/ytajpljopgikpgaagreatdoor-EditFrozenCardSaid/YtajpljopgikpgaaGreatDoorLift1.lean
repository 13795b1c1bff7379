/- A part of the proof that the named laws of this program answer true, whatever the input. -/
import Derived.Test.YtajpljopgikpgaaGreatDoorLift0
import Derived.Laws.Append
import Derived.Laws.Cover3
import Derived.Laws.StructEq
import Derived.Laws.BytesString
import Derived.Lib.ConvBytes
open Array renaming ext'→c8,getElem?_toList→bE,mem_of_getElem?→pr,mem_filter→pR
open Bool renaming and_eq_true→bI,false_eq_true→fQ
open ByteArray renaming data_extract→ph
open List renaming extract_eq_take_drop→gC,map_cons→fG,take_of_length_le→bD,length_cons→aV,cons_append→cY,replicate→dQ,length_eq_zero_iff→bU,getElem?_eq_getElem→ag
open Nat renaming beq→bL,add_assoc→lz,ble→xN,eq_of_beq_eq_true→bm,le_of_ble_eq_true→jf,add_zero→cX,zero_add→aL,le_add_right→pP,min→dV
open Option renaming some→bF,isSome_iff_exists→dT,map_some→gw
open Prod renaming mk→rh
open UInt8 renaming ofNat→fV
namespace Go.Lift
open Go
def R9(S:Option (ad→Prop))(h:ad):Prop:=match S with|none=>True|some f=>f h
def Yv(P:Program)(s:Sem Value)(K:RK)(h:ad):Prop:=∃v S,K v S∧R9 S h∧∀w:World,R9 S w.heap→s.run P w=.ok v w
theorem Yv.of_pure{P:Program}{s:Sem Value}{K:RK}{h:ad}{v:Value}(b:K v none)(a:∀w:World,s.run P w=.ok v w):Yv P s K h:=
 ⟨v,none,b,trivial,fun w _=>a w⟩
variable {P:Program}
theorem wN{t:TypeId}{f:Nat}{u:TypeId}{off:Nat}(h:wO P t f=some (u,off)):
  ∃fs g,P.underlying t=some (.struct fs)∧fs[f]? =some g∧g.type=u∧g.offset=off:=by
 unfold wO at h;split at h
 ·rename_i fs hu
  split at h
  ·rename_i g hg
   simp only[bF.injEq,rh.injEq]at h;exact⟨fs,g,hu,by simpa using hg,h.1,h.2⟩
  ·cases h
 ·cases h
theorem yH{t:TypeId}(h:bL (bZ P t) 0=false)(w:World):(sizeOf t).run P w=.ok (bZ P t) w:=by
 unfold bZ at h⊢;cases hi:P.info? t with
 |none=>rw[hi]at h;cases h
 |some i=>simp[sizeOf,cU hi]
theorem Dc{t:TypeId}{f:Nat}{u:TypeId}{off:Nat}{a:Addr}{K:RK}{h:ad}(i:wO P t f=some (u,off))
  (b:bif bL (bZ P u) 0 then False else K (.pointer (some (adr a off))) none):Yv P (Instr.fieldAt t (.pointer (some a)) f) K h:=by
 obtain⟨k,g,j,d,rfl,rfl⟩:=wN i;cases hz:bL (bZ P g.type) 0 with
 |true=>rw[hz]at b;exact b.elim
 |false=>
  rw[hz]at b;refine .of_pure b fun w=>?_
  have c:bZ P g.type≠0:=fun e=>by rw[e]at hz;cases hz
  simp only[Instr.fieldAt,Sem.run_bind,aC j,Result.andThen_ok,d,Instr.sureAddr,Sem.run_pure,fieldPlace,yH hz];simp[c,tN]
theorem vt{t:TypeId}{i:TypeInfo}(_:P.info? t=some i)(a:∃d,P.underlying t=some d)(w:World):(isAgg t).run P w=.ok (vu P t) w:=by
 obtain⟨d,hd⟩:=a;simp only[isAgg,Sem.run_bind,aC hd,Result.andThen_ok];unfold vu;rw[hd];cases d<;>rfl
theorem zM{c:BinOp}{k k':IntKind}{a b:Int}{K:RK}{h:ad}(g:c=.shl∨c=.shr)(hv:LA c k a b K):Yv P (Op.shift c k a k' b) K h:=by
 rcases g with rfl|rfl
 ·obtain⟨f,d⟩:=hv
  refine .of_pure d fun w=>?_
  simp[Op.shift,Int.not_lt.2 f]
 ·obtain⟨f,d⟩:=hv
  refine .of_pure d fun w=>?_
  simp[Op.shift,Int.not_lt.2 f]
theorem Mm{c:BinOp}{k:IntKind}{a b:Int}{K:RK}{h:ad}(hv:UV c k a b K)(g:c≠ .shl∧c≠ .shr):Yv P (binOp c 0 (.int k a) (.int k b)) K h:=by
 cases c<;>simp only[UV]at hv
 case quo=>obtain⟨f,d⟩:=hv;exact .of_pure d fun w=>by simp[binOp,Op.intDiv,f]
 case rem=>obtain⟨f,d⟩:=hv;exact .of_pure d fun w=>by simp[binOp,Op.intDiv,f]
 all_goals exact .of_pure hv fun w=>by simp[binOp,Op.intArith,Op.intBits,Op.intCmp]
theorem E6(c:BinOp)(t:TypeId)(k k':IntKind)(a b:Int):binOp c t (.int k a) (.int k' b)=binOp c 0 (.int k a) (.int k' b):=by
 cases c<;>rfl
theorem Ly{c:BinOp}{t:TypeId}{a b:ByteArray}{K:RK}{h:ad}(hv:UC c a b K):Yv P (binOp c t (.string a) (.string b)) K h:=by
 cases c<;>simp only[UC]at hv
 case add=>
  obtain⟨f,d⟩:=hv;refine .of_pure d fun w=>?_
  have:¬(((a.size+b.size:Nat):Int)>IntKind.i64.max):=by
   have:IntKind.i64.max=9223372036854775807:=by decide
   omega
  simp only[binOp,Op.stringOp,if_neg this,Sem.run_pure]
 all_goals exact .of_pure hv fun w=>by simp[binOp,Op.stringOp]
theorem ql{t:TypeId}{x y:Value}{b:Bool}{w:World}(h:∀d,(Op.equalIn (d+1) t x y).run P w=.ok b w):(Op.equal t x y).run P w=.ok b w:=h 9999
theorem EO{t:TypeId}{e:TypeId}(b:P.underlying t=some (.pointer e))(a:Option Addr)(w:World):(Op.equal t (.pointer a) (.pointer none)).run P w=.ok a.isNone w:=by
 refine ql fun d=>?_
 simp only[Op.equalIn,Sem.run_bind,aC b,Result.andThen_ok];cases a<;>rfl
theorem MD(f:BinOp)(t:TypeId)(x y:Operand)(a b:Value)(h:∀c d,a=.agg c→b=.agg d→False)(hi:a=.nilIface→b=.nilIface→False)(w:World):
  (eqGuard f t x y a b).run P w=.ok () w:=by
 cases f;case eql=>cases a<;>cases b<;>first|rfl|exact(hi rfl rfl).elim|exact(h _ _ rfl rfl).elim
 case neq=>cases a<;>cases b<;>first|rfl|exact(hi rfl rfl).elim|exact(h _ _ rfl rfl).elim
 all_goals rfl
theorem PK(t:TypeId)(x y:Value)(hx:∀k a,x≠ .int k a)(d:∀s,x≠ .string s)(c:∀k a,x≠ .float k a)(hc:∀k a b,x≠ .complex k a b):binOp .eql t x y=(do pure (.bool (←Op.equal t x y))):=by
 cases x<;>first|rfl|exact absurd rfl (hx _ _)|exact absurd rfl (d _)|exact absurd rfl (c _ _)|exact absurd rfl (hc _ _ _)
theorem PJ(t:TypeId)(x y:Value)(hx:∀k a,x≠ .int k a)(d:∀s,x≠ .string s)(c:∀k a,x≠ .float k a)(hc:∀k a b,x≠ .complex k a b):binOp .neq t x y=(do pure (.bool (!(←Op.equal t x y)))):=by
 cases x<;>first|rfl|exact absurd rfl (hx _ _)|exact absurd rfl (d _)|exact absurd rfl (c _ _)|exact absurd rfl (hc _ _ _)
theorem qm{t:TypeId}{neg:Bool}{x y:Value}{b:Bool}{w:World}(c:(Op.equal t x y).run P w=.ok b w)
  (hx:∀k a,x≠ .int k a)(f:∀s,x≠ .string s)(d:∀k a,x≠ .float k a)(hc:∀k a b,x≠ .complex k a b):
  (binOp (bif neg then .neq else .eql) t x y).run P w=.ok (.bool (bif neg then !b else b)) w:=by
 cases neg
 ·simp only[cond_false,PK t x y hx f d hc,Sem.run_bind,c,Result.andThen_ok,Sem.run_pure]
 ·simp only[cond_true,PJ t x y hx f d hc,Sem.run_bind,c,Result.andThen_ok,Sem.run_pure]
theorem Ev{t:TypeId}{neg:Bool}{x y:Value}{K:RK}{h:ad}(hv:Tp P t neg x y K):
  (∀c d,x=.agg c→y=.agg d→False)∧(x=.nilIface→y=.nilIface→False)∧Yv P (binOp (bif neg then .neq else .eql) t x y) K h:=by
 unfold Tp at hv;split at hv
 ·rename_i e a hu
  refine⟨nofun,nofun,.of_pure hv fun w=>?_⟩
  exact qm (EO hu a w) nofun nofun nofun nofun
 ·rename_i k e a hu
  refine⟨nofun,nofun,.of_pure hv fun w=>?_⟩
  refine qm ?_ nofun nofun nofun nofun;refine ql fun d=>?_
  simp only[Op.equalIn,Sem.run_bind,aC hu,Result.andThen_ok];cases a<;>rfl
 ·rename_i e a _ _ _ _ hu
  refine⟨nofun,nofun,.of_pure hv fun w=>?_⟩
  refine qm ?_ nofun nofun nofun nofun;refine ql fun d=>?_
  simp only[Op.equalIn,Sem.run_bind,aC hu,Result.andThen_ok];cases a<;>rfl
 ·exact hv.elim
theorem wx{w:World}{a b:Addr}(d:eL w.heap a)(f:eL w.heap b):(sameAddr a b).run P w=.ok (a==b) w:=by
 obtain⟨i,o,d,u⟩:=d;obtain⟨cb,eb,f,sb⟩:=f;by_cases c:a.block=b.block
 ·simp[sameAddr,c]
 ·have g:(a==b)=false:=by
   rw[beq_eq_false_iff_ne];intro e;exact c (by rw[e])
  have s1:w.shape? a.block=some (o,i.size):=by simp[World.shape?,d]
  have s2:w.shape? b.block=some (eb,cb.size):=by simp[World.shape?,f]
  have j:∀n,w.frozen? ({block:=a.block,off:=n}:Addr)=false:=fun n=>by simp[World.frozen?,d]
  have q:∀n,w.frozen? ({block:=b.block,off:=n}:Addr)=false:=fun n=>by simp[World.frozen?,f]
  have s:w.frozen? a=false:=by simp[World.frozen?,d]
  have k:w.frozen? b=false:=by simp[World.frozen?,f]
  obtain⟨m,hm⟩:∃m,i.size=m+1:=⟨i.size-1,by omega⟩
  obtain⟨n,p⟩:∃n,cb.size=n+1:=⟨cb.size-1,by omega⟩
  simp[sameAddr,c,noView,viewAt,mayBeOne,stringish,s1,s2,j,q,s,k,hm,p,g]
theorem BV{t:TypeId}{neg:Bool}{x y:Value}{K:RK}{h:ad}(hv:T9 P t neg x y K h):
  (∀c d,x=.agg c→y=.agg d→False)∧(x=.nilIface→y=.nilIface→False)∧Yv P (binOp (bif neg then .neq else .eql) t x y) K h:=by
 unfold T9 at hv;split at hv
 ·rename_i a b hu
  refine⟨nofun,nofun,.of_pure hv fun w=>?_⟩
  refine qm ?_ nofun nofun nofun nofun;refine ql fun d=>?_
  simp only[Op.equalIn,Sem.run_bind,aC hu,Result.andThen_ok,Sem.run_pure]
 ·rename_i e a b hu
  obtain⟨hz,i,k⟩:=hv;refine⟨nofun,nofun,_,_,k,i,fun w j=>?_⟩
  refine qm ?_ nofun nofun nofun nofun;have f:bL (bZ P e) 0=false:=by
   cases hb:bL (bZ P e) 0 with
   |false=>rfl
   |true=>rw[hb]at hz;exact hz.elim
  have g:bZ P e≠0:=fun e=>by rw[e]at f;cases f
  refine ql fun d=>?_
  simp only[Op.equalIn,Sem.run_bind,aC hu,Result.andThen_ok];cases a with
  |none=>cases b<;>rfl
  |some a=>cases b with
   |none=>rfl
   |some b=>
    obtain⟨m,n⟩:=j a b rfl rfl;simp only[Sem.run_bind,yH f,Result.andThen_ok,ne_eq,g,not_false_eq_true,if_true,wx m n];rfl
 ·exact hv.elim
theorem LU{f:BinOp}{t:TypeId}{x y:Value}{K:RK}{h:ad}(hv:UK P f t x y K h):
  (∀c d,x=.agg c→y=.agg d→False)∧(x=.nilIface→y=.nilIface→False)∧Yv P (binOp f t x y) K h:=by
 unfold UK at hv;split at hv
 ·rename_i k a k' b
  refine⟨nofun,nofun,?_⟩;rw[E6];split at hv
  ·exact zM (k':=k') (.inl rfl) hv
  ·exact zM (k':=k') (.inr rfl) hv
  ·rename_i h1 h2
   cases hk:Iu k' k with
   |false=>rw[hk]at hv;exact hv.elim
   |true=>rw[hk]at hv;have:=Ah hk;subst this;exact Mm hv ⟨h1,h2⟩
 ·exact⟨nofun,nofun,Ly hv⟩
 ·split at hv
  ·exact BV (neg:=false) hv
  ·exact BV (neg:=true) hv
  ·exact hv.elim
theorem J0{u:TypeId}{cs:List Value}{off:Nat}(a:((P.underlying u).isSome&&(P.info? u).isSome)=true){w:World}(b:vu P u=true):
  (part u cs.toArray off).run P w=.ok (.agg ((cs.drop off).take (bZ P u)).toArray) w:=by
 simp only[bI,dT]at a;obtain⟨a,i,hi⟩:=a;have c:(sizeOf u).run P w=.ok (bZ P u) w:=by simp[sizeOf,cU hi,bZ,hi]
 simp only[part,Sem.run_bind,vt hi a,Result.andThen_ok,b,if_true,c,Sem.run_pure];congr 2
 apply c8;simp[gC]
theorem G2{u:TypeId}{cs:List Value}{off:Nat}(a:((P.underlying u).isSome&&(P.info? u).isSome)=true){w:World}(c:vu P u=false){v:Value}(hc:cs[off]? =some v):
  (part u cs.toArray off).run P w=.ok v w:=by
 simp only[bI,dT]at a;obtain⟨a,i,hi⟩:=a;have b:cs.toArray[off]? =some v:=by simpa using hc
 simp only[part,Sem.run_bind,vt hi a,Result.andThen_ok,c,fQ,if_false,b,Sem.run_pure]
theorem yN{h:ad}:∀{l m:List (Option Addr×Option Addr)},qx h (l++m)→qx h l∧qx h m
 | [],_,h=>⟨trivial,h⟩
 |(_,_)::_,_,h=>⟨⟨h.1,(yN h.2).1⟩,(yN h.2).2⟩
theorem Kw{t:TypeId}{x y:Value}{b:Bool}{l:List (Option Addr×Option Addr)}(f:Re P t x y=some (b,l)){w:World}(i:qx w.heap l)(d:Nat):
  (Op.equalIn (d+1) t x y).run P w=.ok b w:=by
 unfold Re at f;split at f
 ·rename_i k0 k a k' c hu
  cases hk:Iu k' k with
  |false=>rw[hk]at f;cases f
  |true=>
   rw[hk]at f;have:=Ah hk;subst this;cases f;exact run_equalIn_int w d t _ _ _ _ hu
 ·rename_i a c hu
  cases f;exact run_equalIn_bool w d t _ _ hu
 ·rename_i a c hu
  cases f;exact run_equalIn_string w d t _ _ hu
 ·rename_i e a c hu
  cases hz:bL (bZ P e) 0 with
  |true=>rw[hz]at f;cases f
  |false=>
   rw[hz]at f;cases f;have g:bZ P e≠0:=fun e=>by rw[e]at hz;cases hz
   simp only[Op.equalIn,Sem.run_bind,aC hu,Result.andThen_ok];cases a with
   |none=>cases c<;>rfl
   |some a=>cases c with
    |none=>rfl
    |some c=>
     obtain⟨j,m⟩:=i.1 a c rfl rfl;simp only[Sem.run_bind,yH hz,Result.andThen_ok,ne_eq,g,not_false_eq_true,if_true,wx j m];rfl
 ·cases f
theorem EP{rec:TypeId→List Value→List Value→Option (Bool×List (Option Addr×Option Addr))}{d:Nat}{xs ys:List Value}{w:World}
  (g:∀t us vs b l,rec t us vs=some (b,l)→qx w.heap l→(Op.equalIn (d+1) t (.agg us.toArray) (.agg vs.toArray)).run P w=.ok b w):
  ∀(fs:List Field) (b:Bool) (l:List (Option Addr×Option Addr)),TI P rec xs ys fs=some (b,l)→qx w.heap l→(Op.eqFields (d+1) xs.toArray ys.toArray fs).run P w=.ok b w
 | [],b,l,he,_=>by cases he;rfl
 |f::fs,b,l,he,hp=>by
  unfold TI at he;split at he
  ·cases he
  ·rename_i hn
   cases hi:((P.underlying f.type).isSome&&(P.info? f.type).isSome)with
   |false=>rw[hi]at he;cases he
   |true=>
    rw[hi]at he;simp only[cond_true]at he;split at he
    ·rename_i b1 l1 c m e1 e2
     cases he;obtain⟨p1,n⟩:=yN hp;have a:=EP g fs c m e2 n;have j:∃u v,(part f.type xs.toArray f.offset).run P w=.ok u w∧(part f.type ys.toArray f.offset).run P w=.ok v w∧(Op.equalIn (d+1) f.type u v).run P w=.ok b1 w:=by
      cases ha:vu P f.type with
      |true=>
       rw[ha]at e1;exact⟨_,_,J0 hi ha,J0 hi ha,g _ _ _ _ _ e1 p1⟩
      |false=>
       rw[ha]at e1;simp only[cond_false]at e1;split at e1
       ·rename_i x y hx hy
        exact⟨x,y,G2 hi ha hx,G2 hi ha hy,Kw e1 p1 d⟩
       ·cases e1
     obtain⟨u,v,i,k,o⟩:=j;simp only[Op.eqFields,ne_eq,hn,not_false_eq_true,if_true,Sem.run_bind,i,k,o,Result.andThen_ok];cases b1
     ·rfl
     ·exact a
    ·cases he
theorem yY{w:World}:∀(m:Nat) (t:TypeId) (xs ys:List Value) (b:Bool) (l:List (Option Addr×Option Addr)),Rf P m t xs ys=some (b,l)→qx w.heap l→
  ∀d,(Op.equalIn (d+m+1) t (.agg xs.toArray) (.agg ys.toArray)).run P w=.ok b w
 |0,_,_,_,_,_,he,_,_=>by cases he
 |m+1,t,xs,ys,b,l,he,hp,d=>by
  unfold Rf at he;split at he
  ·rename_i fs hu
   cases hs:P.stoodInHeld t with
   |true=>rw[hs]at he;cases he
   |false=>
    rw[hs]at he;have a:P.fieldsOf t=fs:=by simp[Program.fieldsOf,hu]
    rw[run_equalIn_struct w _ t _ _ (by rw[a];exact hu) hs,a];exact EP (d:=d+m) (fun t f vs b l g c=>yY m t f vs b l g c d) fs.toList b l he hp
  ·cases he
theorem Hn{neg b:Bool}{K:RK}{h:ad}{l:List (Option Addr×Option Addr)}(a:WW neg b K h l):∃S,K (.bool (bif neg then !b else b)) S∧R9 S h∧∀h',R9 S h'→qx h' l:=by
 cases l with
 |nil=>exact⟨none,a,trivial,fun _ _=>trivial⟩
 |cons p l=>exact⟨_,a.2,a.1,fun _ h=>h⟩
theorem LV{c:BinOp}{t:TypeId}{xs ys:Array Value}{x y:Operand}{K:RK}{h:ad}(a:UM P c t xs.toList ys.toList K h):
  ∃v S,K v S∧R9 S h∧∀w:World,R9 S w.heap→(do eqGuard c t x y (.agg xs) (.agg ys);binOp c t (.agg xs) (.agg ys):Sem Value).run P w=.ok v w:=by
 unfold UM at a;cases hg:P.eqGuardType P.depth t with
 |true=>rw[hg]at a;exact a.elim
 |false=>
  rw[hg]at a;simp only[cond_false]at a;split at a
  ·split at a
   ·rename_i b l he
    obtain⟨S,f,i,g⟩:=Hn a;refine⟨_,S,f,i,fun w d=>?_⟩
    have:=yY 10 t _ _ b l he (g _ d) 9989;simp only[Array.toArray_toList]at this;simp only[Sem.run_bind,run_eqGuard_agg w _ t x y _ _ hg,Result.andThen_ok,run_eql_struct,this];rfl
   ·exact a.elim
  ·split at a
   ·rename_i b l he
    obtain⟨S,f,i,g⟩:=Hn a;refine⟨_,S,f,i,fun w d=>?_⟩
    have:=yY 10 t _ _ b l he (g _ d) 9989;simp only[Array.toArray_toList]at this;simp only[Sem.run_bind,run_eqGuard_agg w _ t x y _ _ hg,Result.andThen_ok,run_neq_struct,this];rfl
   ·exact a.elim
  ·exact a.elim
theorem O0{a:UnOp}{x:Value}{K:RK}{h:ad}(hv:WF a x K):Yv P (Op.unary a x) K h:=by
 unfold WF at hv;split at hv
 ·exact .of_pure hv fun w=>rfl
 ·exact .of_pure hv fun w=>rfl
 ·exact .of_pure hv fun w=>rfl
 ·exact hv.elim
theorem E2:∀(l:List UInt8) (s:ByteArray),(l.map fun b=>((b.toNat:Nat):Int)).foldl (fun r n=>r.push (fV n.toNat)) s=⟨s.data++l.toArray⟩
 | [],s=>by simp
 |b::l,s=>by
  simp only[fG,List.foldl_cons];rw[E2 l];congr 1
  have:fV ((b.toNat:Nat):Int).toNat=b:=by simp
  rw[this];apply c8;simp[ByteArray.push]
theorem EE{e:TypeId}(h:Mj P e=true):P.underlying e=some (.int .u8):=by
 unfold Mj at h;split at h
 ·assumption
 ·cases h
theorem JH{w:World}{a:Addr}{vs:List Value}(b:Row w.heap a vs):(loadCells a vs.length).run P w=.ok vs.toArray w:=by
 have:=run_firstCells_some (P:=P) w 1 vs.length a 0 0 vs (by simp) fun j v hv=>by rw[←tN];exact b j v hv
 simpa[Builtin.firstCells]using this
theorem JR{g f:TypeId}{x:Value}{K:RK}{h:ad}(hv:QK P g f x K h):Yv P (convert g f x) K h:=by
 unfold QK at hv;split at hv
 ·rename_i k k' k'' n h1 h2
  exact .of_pure hv fun w=>by simp only[convert,Sem.run_bind,aC h1,aC h2,Result.andThen_ok];rfl
 ·rename_i s h1 h2
  exact .of_pure hv fun w=>by simp only[convert,Sem.run_bind,aC h1,aC h2,Result.andThen_ok];rfl
 ·rename_i e a n c h1 h2
  cases hu:Mj P e with
  |false=>rw[hu]at hv;exact hv.elim
  |true=>
   rw[hu]at hv;obtain⟨s,z,u⟩:=hv;refine⟨_,_,u,z,fun w m=>?_⟩
   rw[run_convert_bytes_string w g f e a n c h1 (EE hu) h2];obtain⟨p,m⟩:=m;rcases m with o|⟨b,rfl,y⟩
   ·have j:s=ByteArray.empty:=by
     have:s.data.toList= []:=by simpa[dN]using o
     cases s with
     |mk d=>simp at this;subst this;rfl
    cases a with
    |none=>rw[j];rfl
    |some b=>
     have q:n=0:=by rw[←p,o];rfl
     subst q;have:=JH (P:=P) (w:=w) (a:=b) (vs:= []) fun i v hv=>by simp at hv
     rw[run_bytesToString w b 0 c [] (by simpa using this),j];rfl
   ·have:=JH (P:=P) y
    rw[p]at this;rw[run_bytesToString w b n c (s.data.toList.map fun b=>((b.toNat:Nat):Int)) (by rw[this,List.map_map];rfl),E2]
    cases s;simp[ByteArray.empty,ByteArray.emptyWithCapacity];try rfl
 ·exact hv.elim
theorem L3{u:TypeId}{cs:Array Value}{off:Nat}{K:RK}{h:ad}(b:∃d,P.underlying u=some d)(hi:∃i,P.info? u=some i)
  (hv:bif vu P u then K (.agg ((cs.toList.drop off).take (bZ P u)).toArray) none else(match cs.toList[off]? with|some v=>K v none|none=>False)):Yv P (part u cs off) K h:=by
 obtain⟨i,hi⟩:=hi;cases ha:vu P u with
 |true=>
  rw[ha]at hv;refine .of_pure hv fun w=>?_
  have c:(sizeOf u).run P w=.ok (bZ P u) w:=by simp[sizeOf,cU hi,bZ,hi]
  simp only[part,Sem.run_bind,vt hi b,Result.andThen_ok,ha,if_true,c,Sem.run_pure];congr 2
  apply c8;simp[gC]
 |false=>
  rw[ha]at hv;simp only[cond_false]at hv;cases hc:cs.toList[off]? with
  |none=>rw[hc]at hv;exact hv.elim
  |some v=>
   rw[hc]at hv;refine .of_pure hv fun w=>?_
   have a:cs[off]? =some v:=by simpa using hc
   simp only[part,Sem.run_bind,vt hi b,Result.andThen_ok,ha,fQ,if_false,a,Sem.run_pure]
def vY(P:Program)(v:Option Value)(d y n:Nat):Prop:=
 match v with
 |some x=>∀c w,(Instr.sliceBound x y c).run P w=.ok n w
 |none=>n=d
theorem mL{v:Option Value}{d y:Nat}{K:Nat→Prop}(hv:RR v d y K):∃n,K n∧vY P v d y n:=by
 unfold RR at hv;split at hv
 ·exact⟨d,hv,rfl⟩
 ·rename_i k i
  obtain⟨⟨a,f⟩,b⟩:=hv;refine⟨i.toNat,b,fun c w=>?_⟩
  simp[Instr.sliceBound,asIntOf,a,f]
 ·exact hv.elim
theorem pu{c:Bool}{len cap n l:Nat}{lo hi:Option Value}(a:vY P hi len cap n)(b:vY P lo 0 n l)(w:World):
  (Instr.sliceBounds c len cap lo hi none).run P w=.ok (l,n,cap) w:=by
 cases hi with
 |none=>
  cases lo with
  |none=>simp only[vY]at a b;subst a;subst b;simp[Instr.sliceBounds]
  |some lo=>simp only[vY]at a b;subst a;simp[Instr.sliceBounds,b]
 |some hi=>
  cases lo with
  |none=>simp only[vY]at a b;subst b;simp[Instr.sliceBounds,a]
  |some lo=>simp only[vY]at a b;simp[Instr.sliceBounds,a,b]
theorem Bu{c:Bool}{len cap n l m:Nat}{lo:Option Value}{hi d:Value}(hm:vY P (some d) 0 cap m)(b:vY P (some hi) 0 m n)(a:vY P lo 0 n l)(w:World):
  (Instr.sliceBounds c len cap lo (some hi) (some d)).run P w=.ok (l,n,m) w:=by
 cases lo with
 |none=>simp only[vY]at hm b a;subst a;simp[Instr.sliceBounds,hm,b]
 |some lo=>simp only[vY]at hm b a;simp[Instr.sliceBounds,hm,b,a]
theorem yE(a:Option Addr)(l m size:Nat):(if m=l then a else a.map (·.add (l*size)))=bq a l m size:=by
 unfold bq;split
 ·rfl
 ·congr 1;funext x;rw[tN]
theorem pz{t:TypeId}{K:Prop}(h:QU P t K):K∧∀w,(sizeOf t).run P w=.ok (bZ P t) w:=by
 unfold QU at h;cases hi:P.info? t with
 |none=>rw[hi]at h;exact h.elim
 |some i=>rw[hi]at h;exact⟨h,fun w=>by simp[sizeOf,cU hi,bZ,hi]⟩
theorem Ia{t:TypeId}{x:Value}{f:Nat}{K:RK}{h:ad}(hv:LQ P t x f K):Yv P (Instr.field t x f) K h:=by
 unfold LQ at hv;split at hv
 ·rename_i u off cs hf
  obtain⟨k,g,j,a,rfl,rfl⟩:=wN hf;cases hb:((P.underlying g.type).isSome&&(P.info? g.type).isSome)with
  |false=>rw[hb]at hv;exact hv.elim
  |true=>
   rw[hb]at hv;simp only[bI,dT]at hb;obtain⟨v,S,d,c,i⟩:=L3 (cs:=cs) (off:=g.offset) (h:=h) hb.1 hb.2 hv;refine⟨v,S,d,c,fun w b=>?_⟩
   have:=i w b;simp only[Instr.field,Sem.run_bind,aC j,Result.andThen_ok,a,asAgg,Sem.run_pure,this]
 ·exact hv.elim
theorem BD{t:TypeId}{x i:Value}{K:RK}{h:ad}(hv:yL P t x i K):Yv P (Instr.indexAt t x i) K h:=by
 unfold yL at hv;split at hv
 ·rename_i n e a k i hu
  obtain⟨⟨⟨c,f⟩,d⟩,hz⟩:=pz hv;refine .of_pure d fun w=>?_
  simp[Instr.indexAt,asIntOf,aC hu,Instr.sureAddr,c,f,hz,tN]
 ·rename_i e b len cap k i hu
  obtain⟨⟨⟨c,f⟩,a,rfl,d⟩,hz⟩:=pz hv;refine .of_pure d fun w=>?_
  simp[Instr.indexAt,asIntOf,aC hu,c,f,hz,tN]
 ·exact hv.elim
theorem H9{t:TypeId}{x i:Value}{K:RK}{h:ad}(hv:LP P t x i K):Yv P (Instr.index t x i) K h:=by
 unfold LP at hv;split at hv
 ·rename_i s k i hu
  obtain⟨b,a,d,c⟩:=hv;refine .of_pure c fun w=>?_
  simp[Instr.index,asIntOf,aC hu,a,d]
 ·exact hv.elim
theorem H7{t:TypeId}{x:Value}{lo hi d:Option Value}{K:RK}{h:ad}(hv:LN P t x lo hi d K):Yv P (Instr.sliceAt t x lo hi d) K h:=by
 unfold LN at hv;split at hv
 ·rename_i s hu
  cases d with
  |some _=>exact hv.elim
  |none=>
   obtain⟨n,hv,b⟩:=mL (P:=P) hv;obtain⟨l,hv,c⟩:=mL (P:=P) hv;refine .of_pure hv fun w=>?_
   simp[Instr.sliceAt,Instr.slice,aC hu,pu b c]
 ·rename_i e a len cap hu
  obtain⟨hv,hz⟩:=pz hv;cases d with
  |none=>
   obtain⟨n,hv,b⟩:=mL (P:=P) hv;obtain⟨l,hv,c⟩:=mL (P:=P) hv;refine .of_pure hv fun w=>?_
   simp[Instr.sliceAt,Instr.slice,aC hu,pu b c,hz,yE]
  |some m=>
   cases hi with
   |none=>exact hv.elim
   |some hi=>
    obtain⟨g,hv,hm⟩:=mL (P:=P) hv;obtain⟨n,hv,b⟩:=mL (P:=P) hv;obtain⟨l,hv,c⟩:=mL (P:=P) hv;refine .of_pure hv fun w=>?_
    simp[Instr.sliceAt,Instr.slice,aC hu,Bu hm b c,hz,yE]
 ·rename_i n e a hu
  obtain⟨hv,hz⟩:=pz hv;cases d with
  |some _=>exact hv.elim
  |none=>
   obtain⟨m,hv,b⟩:=mL (P:=P) hv;obtain⟨l,hv,c⟩:=mL (P:=P) hv;refine .of_pure hv fun w=>?_
   have f:(some (if n=l then a else a.add (l*bZ P e)))=bq (some a) l n (bZ P e):=by
    rw[←yE];split<;>rfl
   simp[Instr.sliceAt,aC hu,Instr.sureAddr,pu b c,hz,f]
 ·exact hv.elim
def oY(d:TypeDesc)(c:CK):Prop:=(∃i,d=.int i∧c=.int i)∨(d=.string∧c=.str)∨(d=.bool∧c=.bool)
theorem wG{t:TypeId}{c:CK}{e:TypeId}(h:Ki P t=some (c,e)):∃k d,P.underlying t=some (.map k e)∧P.underlying k=some d∧oY d c:=by
 unfold Ki at h;split at h
 ·rename_i k e' hu
  split at h
  ·rename_i i hk
   simp only[bF.injEq,rh.injEq]at h;obtain⟨rfl,rfl⟩:=h;exact⟨k,_,hu,hk,.inl ⟨i,rfl,rfl⟩⟩
  ·rename_i hk
   simp only[bF.injEq,rh.injEq]at h;obtain⟨rfl,rfl⟩:=h;exact⟨k,_,hu,hk,.inr (.inl ⟨rfl,rfl⟩)⟩
  ·rename_i hk
   simp only[bF.injEq,rh.injEq]at h;obtain⟨rfl,rfl⟩:=h;exact⟨k,_,hu,hk,.inr (.inr ⟨rfl,rfl⟩)⟩
  ·cases h
 ·cases h
theorem Cu{d:TypeDesc}{c:CK}(hd:oY d c)(x y:c.den):Instr.sameNow d (c.enc x) (c.enc y)=some (hE (c.enc x) (c.enc y)):=by
 rcases hd with⟨i,rfl,rfl⟩|⟨rfl,rfl⟩|⟨rfl,rfl⟩
 ·simp[Instr.sameNow,CK.enc,hE]
 ·simp[Instr.sameNow,CK.enc,hE]
 ·simp[Instr.sameNow,CK.enc,hE]
theorem CH{d:TypeDesc}{c:CK}(hd:oY d c)(x:c.den):∀(es:List MapEntry) (i:Nat),ED c es→
  ∃r,Instr.findNow d (c.enc x) es i=some r∧r.map (·.2)=Kv (c.enc x) es
 | [],i,_=>⟨none,rfl,rfl⟩
 |e::es,i,h=>by
  obtain⟨y,f⟩:=h e (by simp);have b:=Cu hd x y;rw[←f]at b;simp only[Instr.findNow,Kv];cases hb:hE (c.enc x) e.key with
  |true=>rw[b,hb];exact⟨some (i,e.val),rfl,rfl⟩
  |false=>rw[b,hb];exact CH hd x es (i+1) fun e' a=>h e' (by simp[a])
theorem KI{a:Bool}{k:TypeId}{d:TypeDesc}{c:CK}(hd:oY d c)(b:P.underlying k=some d)(v:Value)(n:Nat)(w:World):(Instr.checkKey a (n+1) k v).run P w=.ok () w:=by
 unfold Instr.checkKey;simp only[Sem.run_bind,aC b,Result.andThen_ok];rcases hd with⟨i,rfl,rfl⟩|⟨rfl,rfl⟩|⟨rfl,rfl⟩<;>rfl
theorem uV{k:TypeId}{d:TypeDesc}{c:CK}(hd:oY d c)(b:P.underlying k=some d)(x:c.den){es:List MapEntry}(h:ED c es)(w:World):
  ∃r,(Instr.findKey k (c.enc x) es).run P w=.ok r w∧Instr.findNow d (c.enc x) es 0=some r∧r.map (·.2)=Kv (c.enc x) es:=by
 obtain⟨r,a,hm⟩:=CH hd x es 0 h;refine⟨r,?_,a,hm⟩;simp only[Instr.findKey,Sem.run_bind,aC b,Result.andThen_ok,a,Sem.run_pure]
theorem lV{w:World}{r:Nat}{es:Array MapEntry}{a:Nat}(h:w.heap[r]? =some (.map es a)):(getObj r).run P w=.ok (.map es a) w:=by
 simp only[getObj,Sem.run,h]
theorem nB{a:Bool}{k:TypeId}{d:TypeDesc}{c:CK}(hd:oY d c)(b:P.underlying k=some d)(v:Value)(w:World):(Instr.checkKey a 10000 k v).run P w=.ok () w:=
 KI hd b v 9999 w
theorem L8{t:TypeId}{c:CK}{e k:TypeId}{d:TypeDesc}(p:P.underlying t=some (.map k e))(f:P.underlying k=some d)(hd:oY d c){m:Option Nat}{x:c.den}{z v:Value}{b n:Bool}{w:World}
  (hz:(zeroValue e).run P w=.ok z w)(hm:MY c z w.heap m (c.enc x) v b):
  (Instr.lookup t (.map m) (c.enc x) n).run P w=.ok (bif n then .tuple #[v,.bool b]else v) w:=by
 cases m with
 |none=>
  obtain⟨rfl,rfl⟩:=hm;simp only[Instr.lookup,Sem.run_bind,aC p,Result.andThen_ok,Sem.run_pure,nB hd f];obtain⟨r,i,g,a⟩:=uV (P:=P) hd f x (es:= []) (fun _ h=>by cases h) w
  simp only[Instr.findNow,bF.injEq]at g;subst g;simp[i,hz]
 |some r=>
  obtain⟨es,j,q,o,hv⟩:=hm;simp only[Instr.lookup,Sem.run_bind,aC p,Result.andThen_ok,lV q,Sem.run_pure,nB hd f];obtain⟨r,i,g,a⟩:=uV (P:=P) hd f x o w;simp only[i,Result.andThen_ok];cases r with
  |none=>
   simp only[Option.map_none]at a;rw[←a]at hv;obtain⟨rfl,rfl⟩:=hv;simp[hz]
  |some r=>
   simp only[gw]at a;rw[←a]at hv;obtain⟨rfl,rfl⟩:=hv;cases n<;>rfl
theorem fa{e:TypeId}{z:Value}(h:xY P e=some z)(w:World):(zeroValue e).run P w=.ok z w:=by
 unfold xY at h;cases hi:P.info? e with
 |none=>rw[hi]at h;cases h
 |some i=>rw[hi]at h;simp only at h;simp[zeroValue,cU hi,h]
theorem F1{t:TypeId}{x k:Value}{a:Bool}{K:RK}{h:ad}(hv:H8 P t x k a K h):Yv P (Instr.lookup t x k a) K h:=by
 unfold H8 at hv;split at hv
 ·rename_i c e m hc
  obtain⟨o,d,j,g,hd⟩:=wG hc;obtain⟨n,rfl,hv⟩:=CK.dec_sound hv;split at hv
  ·rename_i ek z hek hz
   obtain⟨y,b,hm,i⟩:=hv;exact⟨_,_,i,hm,fun w f=>L8 j g hd (fa hz w) f⟩
  ·exact hv.elim
 ·exact hv.elim
theorem Cw{w:World}{b cap s q:Nat}{buf:Array Value}{a t:Bool}(h:w.heap[b]? =some (.chan cap buf a s q t)):(getObj b).run P w=.ok (.chan cap buf a s q t) w:=by
 simp only[getObj,Sem.run,h]
theorem LO{t:TypeId}{x:Value}{ats:Array TypeId}{ty:TypeId}{K:RK}{h:ad}(a:ats[0]? =some t) (hv:UI P t x K h):Yv P (Builtin.len_ ats ty #[x]) K h:=by
 unfold UI at hv;split at hv
 ·rename_i s hu
  exact .of_pure hv fun w=>by simp[Builtin.len_,a,aC hu,goInt]
 ·rename_i n e _ hu
  exact .of_pure hv fun w=>by simp[Builtin.len_,a,aC hu,goInt]
 ·rename_i e b n c hu
  exact .of_pure hv fun w=>by simp[Builtin.len_,a,aC hu,goInt]
 ·rename_i k e m hu
  obtain⟨n,hm,f⟩:=hv;refine⟨_,_,f,hm,fun w d=>?_⟩
  cases m with
  |none=>
   have:n=0:=d;subst this;simp[Builtin.len_,a,aC hu,goInt]
  |some r=>
   obtain⟨es,g,i,rfl⟩:=d;simp[Builtin.len_,a,aC hu,goInt,lV i]
 ·rename_i k e m hu
  obtain⟨n,hm,f⟩:=hv;refine⟨_,_,f,hm,fun w d=>?_⟩
  cases m with
  |none=>
   have:n=0:=d;subst this;simp[Builtin.len_,a,aC hu,goInt]
  |some r=>
   obtain⟨cap,buf,j,s,q,i,rfl⟩:=d;simp[Builtin.len_,a,aC hu,goInt,Cw i]
 ·exact hv.elim
theorem LS{t:TypeId}{x:Value}{ats:Array TypeId}{ty:TypeId}{K:RK}{h:ad}(a:ats[0]? =some t) (hv:UJ P t x K h):Yv P (Builtin.cap_ ats ty #[x]) K h:=by
 unfold UJ at hv;split at hv
 ·rename_i e b n c hu
  exact .of_pure hv fun w=>by simp[Builtin.cap_,a,aC hu,goInt]
 ·rename_i k e m hu
  obtain⟨n,hm,f⟩:=hv;refine⟨_,_,f,hm,fun w d=>?_⟩
  cases m with
  |none=>
   have:n=0:=d;subst this;simp[Builtin.cap_,a,aC hu,goInt]
  |some r=>
   obtain⟨cap,buf,i,s,q,g,rfl⟩:=d;simp[Builtin.cap_,a,aC hu,goInt,Cw g]
 ·exact hv.elim
theorem Ab{c:Bool}{k:IntKind}:∀{vs:List Value} {a:Int} {f:Value→Prop},Ir c k a vs f→∃v,f v∧∀w,(vs.foldlM (bif c then Builtin.max2 else Builtin.min2) (Value.int k a):Sem Value).run P w=.ok v w
 | [],a,f,h=>⟨_,h,fun w=>by simp⟩
 | .int k' b::vs,a,f,h=>by
  simp only[Ir]at h;cases hk:Iu k' k with
  |false=>rw[hk]at h;exact h.elim
  |true=>
   rw[hk]at h;have:=Ah hk;subst this;obtain⟨v,g,d⟩:=Ab h;refine⟨v,g,fun w=>?_⟩
   rw[←d w];cases c<;>simp[List.foldlM_cons,Builtin.max2,Builtin.min2]
theorem yd{a:Bool}{vs:List Value}{f:Value→Prop}{ats:Array TypeId}{ty:TypeId}(h:Dx a vs f):∃v,f v∧∀w,(bif a then Builtin.max_ ats ty vs.toArray else Builtin.min_ ats ty vs.toArray).run P w=.ok v w:=by
 unfold Dx at h;split at h
 ·obtain⟨v,c,b⟩:=Ab (P:=P) h
  refine⟨v,c,fun w=>?_⟩
  have:=b w;cases a<;>simpa[Builtin.max_,Builtin.min_]using this
 ·exact h.elim
theorem Pp{a:Addr}{e:MapEntry}{w:World}(j:a.off=0)(h:MZ w.heap a.block e):(Instr.entry (.pointer (some a))).run P w=.ok (.tuple #[e.key,e.val]) w:=by
 obtain⟨m,c,f,d,g,es,hi,o,hm,k⟩:=h;obtain⟨b,off,i⟩:=a;simp only at j hi;subst j;have n:(getObj b).run P w=.ok (.mapIter (some m) c f d) w:=by simp only[getObj,Sem.run,hi]
 simp[Instr.entry,n,o,lV hm,k]
def Gz:DV→Value→Prop
 | .t,v=>v=.bool true
 | .f,v=>v=.bool false
 | .u,v=>v=undef
 | .x,_=>True
def DecOk(d:uK)(r:cJ):Prop:=∀t,qN d t=.x∨∃v,kq r t=some v∧Gz (qN d t) v
theorem DecOk.at{d:uK}{r:cJ}(h:DecOk d r){t:Nat}{v:Value}(hv:kq r t=some v):Gz (qN d t) v:=by
 rcases h t with e|⟨u,a,b⟩
 ·rw[e];trivial
 ·rw[hv]at a;cases a;exact b
theorem uj{d:uK}{r:cJ}(hd:DecOk d r){o:Operand}{v:Value}(h:dA r o=some v):Gz (Aq d o) v:=by
 cases o with
 |tmp t=>exact hd.at h
 |const c=>
  simp[dA]at h;subst h;cases c with
  |bool b=>cases b<;>exact rfl
  |_=>trivial
 |global g=>trivial
 |func f=>trivial
theorem CD{t:TypeId}(h:qg P t=true):∃d,P.underlying t=some d∧∀m,d≠ .interface m:=by
 unfold qg at h;split at h
 ·cases h
 ·rename_i d hd;exact⟨_,hd,fun m e=>by subst e;simp_all⟩
 ·cases h
theorem Ae{t:TypeId}{v:Value}(h:qg P t=true)(w:World):(Instr.makeInterface t v).run P w=.ok (.iface t v) w:=by
 obtain⟨d,hd,a⟩:=CD h;simp only[Instr.makeInterface,Sem.run_bind,aC hd,Result.andThen_ok];cases d<;>first|exact absurd rfl (a _)|rfl
theorem DX{t u:TypeId}{v:Value}(h:qg P t=true)(w:World):(Instr.typeAssert (.iface t v) u t false).run P w=.ok v w:=by
 obtain⟨d,hd,a⟩:=CD h;simp only[Instr.typeAssert,Sem.run_bind,aC hd,Result.andThen_ok];cases d<;>first|exact absurd rfl (a _)|(simp[Sem.run_pure])
theorem km{t:TypeId}{z:List Value}(h:qv P t=some z):∃v,xY P t=some v∧v.cells.toList=z:=by
 unfold qv at h;cases hz:xY P t with
 |none=>rw[hz]at h;cases h
 |some v=>rw[hz]at h;simp only[bF.injEq]at h;exact⟨v,rfl,h⟩
theorem qX{t:TypeId}{v:Value}(h:xY P t=some v):∃i,P.info? t=some i∧i.zero=some v:=by
 unfold xY at h;cases hi:P.info? t with
 |none=>rw[hi]at h;cases h
 |some i=>rw[hi]at h;exact⟨i,rfl,h⟩
theorem RF{A B:List Value}{x:Value}{m:Nat}(h:A.length=m):(A++x::B).take (m+1)=A++ [x]:=by
 subst h;rw[List.take_append,bD (by omega),show A.length+1-A.length=1 by omega];rfl
theorem RH{A B:List Value}{x:Value}{m n:Nat}(h:A.length=m):(A++x::B).drop (m+1+n)=B.drop n:=by
 subst h;rw[List.drop_append,List.drop_eq_nil_of_le (by omega),show A.length+1+n-A.length=n+1 by omega];rfl
theorem Kt(off:Nat):∀(xs:List Value) (k:Nat) (arr:Array Value),off+k+xs.length≤arr.size→
  (xs.zipIdx k).foldl (fun cs (c,j)=>cs.setIfInBounds (off+j) c) arr=(JW arr.toList (off+k) xs).toArray
 | [],k,arr,_=>by simp[JW]
 |x::xs,k,arr,h=>by
  simp only[aV]at h;simp only[List.zipIdx_cons,List.foldl_cons];rw[Kt off xs (k+1) _ (by simp;omega)];have hm:off+k<arr.toList.length:=by simp;omega
  have b:arr.toList.set (off+k) x=arr.toList.take (off+k)++x::arr.toList.drop (off+k+1):=by
   rw[List.set_eq_take_append_cons_drop,if_pos hm]
  have a:(arr.toList.take (off+k)).length=off+k:=by simp;omega
  congr 1
  unfold JW;rw[Array.toList_setIfInBounds,b,←lz,RF a,RH a];simp only[List.append_assoc,cY,List.nil_append,aV,List.drop_drop];rw[show off+k+1+xs.length=off+k+(xs.length+1) by omega]
theorem sB{a:Nat→Option (Nat×Nat)}:∀(parts:List (Nat×Value)) (cs cs':List Value),CI a cs parts=some cs'→Instr.fill a cs.toArray parts=some cs'.toArray
 | [],cs,cs',h=>by simp only[CI,bF.injEq]at h;subst h;rfl
 |(i,v)::rest,cs,cs',h=>by
  simp only[CI]at h;cases hp:a i with
  |none=>rw[hp]at h;cases h
  |some os=>
   obtain⟨off,size⟩:=os;rw[hp]at h;simp only at h;cases hb:(bL v.cells.toList.length size&&xN (off+v.cells.toList.length) cs.length)with
   |false=>rw[hb]at h;cases h
   |true=>
    rw[hb]at h;simp only[bI]at hb;have d:=bm hb.1;have j:=jf hb.2;have f:=sB rest _ _ h;have g:v.cells.size=size:=by simpa using d
    have b:off+v.cells.size≤cs.length:=by simpa using j
    have c:Array.foldl (fun cs x=>cs.setIfInBounds (off+x.2) x.1) cs.toArray v.cells.zipIdx=(JW cs off v.cells.toList).toArray:=by
     have:=Kt off v.cells.toList 0 cs.toArray (by simpa using b);simp only[cX]at this;rw[←this,←Array.foldl_toList];congr 1
     simp[Array.toList_zipIdx]
    simp only[Instr.fill,hp];rw[if_neg (by simp[g];omega)];simp only[c];exact f
theorem oJ{N:Nat}{r:cJ}{a:Act}(h:Agree N r a):∀{ps:List (Nat×Operand)} {vs:List (Nat×Value)},qe r ps=some vs→ps.map (fun p=>(p.1,a.eval p.2))=vs
 | [],vs,hv=>by simp[qe]at hv;subst hv;rfl
 |(i,o)::ps,vs,hv=>by
  simp only[qe]at hv;cases ho:dA r o with
  |none=>simp[ho]at hv
  |some v=>cases hos:qe r ps with
   |none=>simp[ho,hos]at hv
   |some us=>simp[ho,hos]at hv;subst hv;simp[kz h ho,oJ h hos]
theorem qh{t:TypeId}(h:xC P t=true)(w:World):(sizeOf t).run P w=.ok (bZ P t) w:=by
 unfold xC at h;cases hi:P.info? t with
 |none=>rw[hi]at h;cases h
 |some i=>simp[sizeOf,cU hi,bZ,hi]
theorem Ep(w:World):∀l:List Field,Ax P l=true→(l.mapM fun f:Field=>((do pure (f.offset,←sizeOf f.type)):Sem (Nat×Nat))).run P w=.ok (l.map fun f:Field=>(f.offset,bZ P f.type)) w
 | [],_=>rfl
 |f::l,h=>by
  simp only[Ax]at h;cases hf:xC P f.type with
  |false=>rw[hf]at h;cases h
  |true=>
   rw[hf]at h;rw[List.mapM_cons];simp only[Sem.run_bind,qh hf,Result.andThen_ok,Sem.run_pure,Ep w l h,fG]
theorem Av{t:TypeId}{ps:Array (Nat×Value)}{cs:List Value}(a:IM P t ps.toList=some cs)(w:World):
  (Instr.build t ps).run P w=.ok (.agg cs.toArray) w:=by
 unfold IM at a;split at a
 ·rename_i fs z hu hz
  obtain⟨v,hz,hv⟩:=km hz;cases ha:Ax P fs.toList with
  |false=>rw[ha]at a;cases a
  |true=>
   rw[ha]at a;have g:(fs.mapM fun f:Field=>((do pure (f.offset,←sizeOf f.type)):Sem (Nat×Nat))).run P w=.ok (fs.map fun f:Field=>(f.offset,bZ P f.type)) w:=by
    rw[Array.mapM_eq_mapM_toList];simp only[Sem.run_map,Ep w fs.toList ha,Result.andThen_ok];congr 1
    apply c8;simp
   have d:=sB _ _ _ a;have b:(fun i:Nat=>(fs.map fun f:Field=>(f.offset,bZ P f.type))[i]?)=L2 P fs.toList:=by
    funext i;unfold L2;rw[Array.getElem?_map,bE];cases fs[i]?<;>rfl
   have c:v.cells=z.toArray:=by rw[←hv]
   rw[cond_true]at a;rw[←b]at d;simp only[Instr.build,Sem.run_bind,fa hz,Result.andThen_ok,aC hu,g,c,d,Sem.run_pure]
 ·rename_i n e z hu hz
  obtain⟨v,hz,hv⟩:=km hz;cases ha:xC P e with
  |false=>rw[ha]at a;cases a
  |true=>
   rw[ha]at a;have d:=sB _ _ _ a;have c:v.cells=z.toArray:=by rw[←hv]
   simp only[Instr.build,Sem.run_bind,fa hz,Result.andThen_ok,aC hu,qh ha,c,d,Sem.run_pure]
 ·cases a
theorem BC{ek:Option (Kind×Kind)}{o:Oper}{r:cJ}{K:RK}{h:ad}{N:Nat}{a:Act}(O:Agree N r a)(g:Bm P ek o.op r K h)(d:uK)(hd:DecOk d r):
  ∃v S,K v S∧R9 S h∧Gz (Jl d o.op) v∧∀w:World,R9 S w.heap→(execOp a.eval o).run P w=.ok (.value v) w:=by
 have j:∀{x:Operand} {v:Value},dA r x=some v→a.eval x=v:=fun h=>kz O h
 have fin:∀{s:Sem Value},Yv P s K h→Jl d o.op=.x→(∀w,(execOp a.eval o).run P w=(do pure (Next.value (←s)):Sem Next).run P w)→
   ∃v S,K v S∧R9 S h∧Gz (Jl d o.op) v∧∀w:World,R9 S w.heap→(execOp a.eval o).run P w=.ok (.value v) w:=by
  rintro s ⟨v,S,q,A,z⟩ hx D;exact⟨v,S,q,A,by rw[hx];trivial,fun w C=>by rw[D w];exact jj (z w C)⟩
 obtain⟨M,J,type,nT,E,F⟩:=o;simp only at g fin⊢;cases J with
 |move x=>
  simp only[Bm]at g;split at g
  ·rename_i v hv
   exact⟨v,none,g,trivial,uj hd hv,fun w _=>by simp[execOp,j hv]⟩
  ·exact g.elim
 |assign x=>
  simp only[Bm]at g;split at g
  ·rename_i v hv
   exact⟨v,none,g,trivial,uj hd hv,fun w _=>by simp[execOp,j hv]⟩
  ·exact g.elim
 |pick c x y=>
  simp only[Bm]at g;split at g
  ·rename_i vc va vb hc hx Q
   unfold T1 at g;split at g
   ·rename_i cb
    have I:=uj hd hc;have V:=uj hd hx;have Y:=uj hd Q;have D:∀w,(execOp a.eval ⟨M,.pick c x y,type,nT,E,F⟩).run P w=.ok (.value (if cb then va else vb)) w:=fun w=>by
     simp[execOp,j hc,j hx,j Q,asBool]
    have G:Gz (Jl d (.pick c x y)) (if cb then va else vb):=by
     simp only[Jl];cases hcd:Aq d c with
     |t=>
      rw[hcd]at I;have:cb=true:=by simpa[Gz]using I
      subst this;exact V
     |f=>
      rw[hcd]at I;have:cb=false:=by simpa[Gz]using I
      subst this;exact Y
     |u=>trivial
     |x=>trivial
    split at g
    ·rename_i bx by'
     have L:(if cb=true then Value.bool bx else Value.bool by')=.bool (bif cb then bx else by'):=by cases cb<;>rfl
     rw[L]at G;exact⟨_,none,g,trivial,G,fun w _=>by rw[D w,L]⟩
    ·cases cb
     ·exact⟨_,none,g,trivial,G,fun w _=>D w⟩
     ·exact⟨_,none,g,trivial,G,fun w _=>D w⟩
   ·exact g.elim
  ·exact g.elim
 |load t x=>
  simp only[Bm]at g;split at g
  ·rename_i v hv
   obtain⟨u,S,q,A,z⟩:=Cy g;exact fin ⟨u,some S,q,A,z⟩ rfl fun w=>by simp only[execOp,j hv]
  ·exact g.elim
 |nilCheck x=>
  simp only[Bm]at g;split at g
  ·rename_i p hv
   obtain⟨b,rfl,q⟩:=g;exact⟨_,none,q,trivial,trivial,fun w _=>by simp[execOp,j hv]⟩
  ·exact g.elim
 |binOp J t x y yt=>
  simp only[Bm]at g;split at g
  ·rename_i v u hv hu
   obtain⟨T,S,q,A,z⟩:=LV (x:=x) (y:=y) g;refine⟨T,S,q,A,trivial,fun w C=>?_⟩
   simp only[execOp,j hv,j hu];exact jj (z w C)
  ·rename_i v u hna hv hu
   have go:(∀c d,v=.agg c→u=.agg d→False)∧(v=.nilIface→u=.nilIface→False)∧Yv P (binOp J t v u) K h:=by
    split at g
    ·exact Ev (neg:=false) g
    ·exact Ev (neg:=true) g
    ·exact LU g
   obtain⟨h1,h2,T,S,q,A,z⟩:=go;refine⟨T,S,q,A,trivial,fun w C=>?_⟩
   simp only[execOp,j hv,j hu];simp[MD J t x y v u h1 h2 w,z w C]
  ·exact g.elim
 |unOp J t x=>
  simp only[Bm]at g;split at g
  ·rename_i v hv
   obtain⟨u,S,q,A,z⟩:=O0 (P:=P) (h:=h) g;refine⟨u,S,q,A,?_,fun w C=>by simp only[execOp,j hv];exact jj (z w C)⟩
   have H:=uj hd hv;cases J<;>try trivial
   simp only[Jl];have B:=z {(default:World)with heap:=h} A;cases hx:Aq d x with
   |t=>
    rw[hx]at H;have:v=.bool true:=H;subst this;simp[Op.unary]at B;exact B.symm
   |f=>
    rw[hx]at H;have:v=.bool false:=H;subst this;simp[Op.unary]at B;exact B.symm
   |u=>trivial
   |x=>trivial
  ·exact g.elim
 |convert s t x=>
  simp only[Bm]at g;split at g
  ·rename_i v hv
   exact fin (JR g) rfl fun w=>by simp only[execOp,j hv]
  ·exact g.elim
 |extract x i=>
  simp only[Bm]at g;split at g
  ·rename_i vs hv
   split at g
   ·rename_i u hu
    have X:vs[i]? =some u:=by simpa using hu
    exact⟨u,none,g,trivial,trivial,fun w _=>by simp[execOp,j hv,Instr.extract,X]⟩
   ·exact g.elim
  ·exact g.elim
 |fieldAddr t x f=>
  simp only[Bm]at g;split at g
  ·rename_i b u off hv hf
   exact fin (Dc hf g) rfl fun w=>by simp only[execOp,j hv]
  ·exact g.elim
 |field t x f=>
  simp only[Bm]at g;split at g
  ·rename_i v hv
   exact fin (Ia g) rfl fun w=>by simp only[execOp,j hv]
  ·exact g.elim
 |indexAddr t x i=>
  simp only[Bm]at g;split at g
  ·rename_i v u hv hu
   exact fin (BD g) rfl fun w=>by simp only[execOp,j hv,j hu]
  ·exact g.elim
 |index t x i=>
  simp only[Bm]at g;split at g
  ·rename_i v u hv hu
   exact fin (H9 g) rfl fun w=>by simp only[execOp,j hv,j hu]
  ·exact g.elim
 |slice t x lo hi mx=>
  simp only[Bm]at g;split at g
  ·rename_i v l h' m hv hl hh hm
   have W:∀{x:Option Operand} {v:Option Value},G3 r x=some v→x.map a.eval=v:=by
    intro x v hx;cases x with
    |none=>simp[G3]at hx;subst hx;rfl
    |some x=>
     simp only[G3]at hx;cases D:dA r x with
     |none=>simp[D]at hx
     |some u=>simp[D]at hx;subst hx;simp[j D]
   exact fin (H7 g) rfl fun w=>by simp only[execOp,j hv,W hl,W hh,W hm]
  ·exact g.elim
 |lookup t x k ok=>
  simp only[Bm]at g;split at g
  ·rename_i v u hv hu
   exact fin (F1 g) rfl fun w=>by simp only[execOp,j hv,j hu]
  ·exact g.elim
 |makeInterface t x=>
  simp only[Bm]at g;split at g
  ·rename_i v hv
   cases hb:qg P t with
   |false=>rw[hb]at g;exact g.elim
   |true=>
    rw[hb,cond_true]at g;exact⟨_,none,g,trivial,trivial,fun w _=>by simp only[execOp,j hv];exact jj (Ae hb w)⟩
  ·exact g.elim
 |typeAssert x u t ok=>
  simp only[Bm]at g;split at g
  ·rename_i v hv
   cases ok with
   |true=>exact g.elim
   |false=>
    rw[cond_false]at g;unfold NP at g;cases hb:qg P t with
    |false=>rw[hb]at g;exact g.elim
    |true=>
     rw[hb,cond_true]at g;split at g
     ·obtain⟨y,rfl,q⟩:=g
      exact⟨_,none,q,trivial,trivial,fun w _=>by simp only[execOp,j hv];exact jj (DX hb w)⟩
     ·exact g.elim
  ·exact g.elim
 |makeFunc fn first cap=>
  simp only[Bm]at g;split at g
  ·rename_i vs us hv hu
   have L:=mB O hv;have e2:=mB O hu;refine⟨_,none,g,trivial,trivial,fun w _=>?_⟩
   have R:first.map a.eval=vs.toArray:=by rw[←L];apply c8;simp
   have f2:cap.map a.eval=us.toArray:=by rw[←e2];apply c8;simp
   simp[execOp,Instr.makeFunc,R,f2]
  ·exact g.elim
 |entry it=>
  simp only[Bm]at g;split at g
  ·rename_i b kk vk hv
   obtain⟨h0,e,x,y,hi,q,Q,hK⟩:=g;refine⟨_,_,hK,hi,trivial,fun w C=>?_⟩
   simp only[execOp,j hv];refine jj ?_;rw[Pp h0 C,q,Q]
  ·exact g.elim
 |call c=>
  simp only[Bm]at g;have er:∀{b:Builtin} {vs:List Value},c.callee=.builtin b→nR r c.args.toList=some vs→∃cs:Array Bool,∀w,(execOp a.eval ⟨M,.call c,type,nT,E,F⟩).run P w=
    (builtin b c.argTypes type cs vs.toArray).run P w:=by
   intro b vs hc n;have L:=mB O n;have R:c.args.map a.eval=vs.toArray:=by rw[←L];apply c8;simp
   refine⟨c.args.map fun| .const _=>true|_=>false,fun w=>?_⟩
   simp[execOp,resolve,hc,R,invoke];rfl
  split at g
  ·rename_i v t hc n hat
   obtain⟨cs,er⟩:=er hc n;obtain⟨u,S,q,A,z⟩:=LO (ats:=c.argTypes) (ty:=type) (by rw[←bE,hat];rfl) g;exact⟨u,S,q,A,trivial,fun w C=>by rw[er w];simp only[builtin];exact jj (z w C)⟩
  ·rename_i v t hc n hat
   obtain⟨cs,er⟩:=er hc n;obtain⟨u,S,q,A,z⟩:=LS (h:=h) (ats:=c.argTypes) (ty:=type) (by rw[←bE,hat];rfl) g;exact⟨u,S,q,A,trivial,fun w C=>by rw[er w];simp only[builtin];exact jj (z w C)⟩
  ·rename_i vs hc n
   obtain⟨cs,er⟩:=er hc n;obtain⟨u,q,z⟩:=yd (P:=P) (ats:=c.argTypes) (ty:=type) g;exact⟨u,none,q,trivial,trivial,fun w _=>by rw[er w];simp only[builtin];exact jj (z w)⟩
  ·rename_i vs hc n
   obtain⟨cs,er⟩:=er hc n;obtain⟨u,q,z⟩:=yd (P:=P) (ats:=c.argTypes) (ty:=type) g;exact⟨u,none,q,trivial,trivial,fun w _=>by rw[er w];simp only[builtin];exact jj (z w)⟩
  ·exact g.elim
 |build t ps=>
  simp only[Bm]at g;split at g
  ·rename_i vs n
   split at g
   ·rename_i cs hcs
    refine⟨_,none,g,trivial,trivial,fun w _=>?_⟩
    have Z:(ps.map fun x=>(x.1,a.eval x.2))=vs.toArray:=by
     rw[←oJ O n];apply c8;simp
    have D:=Av (ps:=vs.toArray) (by simpa using hcs) w;simp only[execOp];rw[show(ps.map fun(i,x)=>(i,a.eval x))=vs.toArray from Z]
    exact jj D
   ·exact g.elim
  ·exact g.elim
 |_=>simp only[Bm]at g
end Go.Lift
namespace Go.Lift
open Go
variable {P:Program}
def KQ(P:Program)(s:Sem Next)(K:WK)(w:World):Prop:=
 (∃v w',s.run P w=.ok (.value v) w'∧Tame w w'∧K v w'.heap)∨
 (∃w',s.run P w=.ok .skip w'∧Tame w w'∧K undef w'.heap)∨
 (∃f args,s.run P w=.ok (.enter f args) w∧Calls P f args w fun e w'=>Tame w w'∧∃v,e=.returned v∧K v w'.heap)∨
 (∃l fn tmps assign body,s.run P w=.ok (.round l fn tmps assign body) w∧
  ∀(c:Frame) (cs:List Frame),∃b w',Tame w w'∧K (.bool b) w'.heap∧Steps P (lone (Frame.round l fn tmps assign body .normal) (c::cs) w) (lone (c.finish (.bool b)) cs w'))
def Wv(P:Program)(s:Sem Value)(K:WK)(w:World):Prop:=∃v w',s.run P w=.ok v w'∧Tame w w'∧K v w'.heap
theorem Wv.out{s:Sem Value}{K:WK}{w:World}(h:Wv P s K w):KQ P (do pure (Next.value (←s))) K w:=by
 obtain⟨v,w',a,c,b⟩:=h;exact .inl ⟨v,w',jj a,c,b⟩
def Wu(P:Program)(s:Sem Unit)(K:WK)(w:World):Prop:=∃w',s.run P w=.ok () w'∧Tame w w'∧K undef w'.heap
theorem Wu.out{s:Sem Unit}{K:WK}{w:World}(h:Wu P s K w):KQ P (do s;pure Next.skip) K w:=by
 obtain⟨w',a,c,b⟩:=h;exact .inr (.inl ⟨w',QB a,c,b⟩)
def ko(w:World)(h:ad):World:={w with heap:=h}
theorem eT(w:World)(h:ad):Tame w (ko w h):=⟨rfl,rfl,rfl⟩
theorem kE(e:TypeId)(cs:Array Value)(w:World):(newRow e cs).run P w=.ok (aD w.heap) (ko w (hnew w.heap cs.toList e)):=by
 simp[newRow,newObj,Sem.run,aD,ko,hnew,bind,Sem.bind,pure]
theorem Ee(o:Obj)(w:World):(newObj o).run P w=.ok w.heap.size (ko w (w.heap.push o)):=rfl
theorem F9{h:ad}{a b:Addr}(v:Value)(c:a≠b):aR (hset h a v) b=aR h b:=
 World.cell?_setCell_other {(default:World)with heap:=h} a b v c
theorem Db{h:ad}{a:Addr}{u:Value}(v:Value)(hc:aR h a=some u):aR (hset h a v) a=some v:=
 World.cell?_setCell_same {(default:World)with heap:=h} a v hc
theorem Iw{h:ad}{a b:Addr}(v:Value):DD (hset h a v) b=DD h b:=
 World.frozen?_setCell {(default:World)with heap:=h} a b v
theorem Wr.hset{h:ad}{a b:Addr}(v:Value)(d:Wr h b):Wr (hset h a v) b:=by
 obtain⟨⟨u,c⟩,f⟩:=d;refine⟨?_,by rw[Iw];exact f⟩
 by_cases e:a=b
 ·subst e;exact⟨v,Db v c⟩
 ·exact⟨u,by rw[F9 v e];exact c⟩
theorem LI{w:World}{a:Addr}{v:Value}(hv:∀cs,v≠ .agg cs)(b:∀cs,v≠ .tuple cs)(f:Wr w.heap a):(store a v).run P w=.ok () (ko w (hset w.heap a v)):=by
 obtain⟨⟨u,i⟩,g⟩:=f;have d:w.cell? a=some u:=i;have c:w.frozen? a=false:=g;cases v<;>first|exact absurd rfl (hv _)|exact absurd rfl (b _)|(simp only[store,Sem.run,d,c];rfl)
theorem Ip{v:Value}{vs:List Value}(h:co (v::vs)=true):(∀cs,v≠ .agg cs)∧(∀cs,v≠ .tuple cs)∧co vs=true:=by
 simp only[co,bI]at h;refine⟨fun cs e=>?_,fun cs e=>?_,h.2⟩<;>(subst e;exact absurd h.1 (by simp))
theorem ry{a:Addr}:∀(vs:List Value) (i:Nat) (w:World),co vs=true→(∀j,j<vs.length→Wr w.heap (adr a (i+j)))→
  (storeCells a vs i).run P w=.ok () (ko w (gT w.heap a i vs))
 | [],i,w,_,_=>rfl
 |v::vs,i,w,b,hw=>by
  obtain⟨f,g,b⟩:=Ip b;have c:=hw 0 (by simp);simp only[cX]at c;have d:a.add i=adr a i:=(tN a i).symm;simp only[storeCells,d,Sem.run_bind,LI f g c,Result.andThen_ok];rw[ry vs (i+1) (ko w (hset w.heap (adr a i) v)) b fun j k=>?_]
  ·rfl
  ·have:=hw (j+1) (by simp only[aV];omega)
   rw[show i+1+j=i+(j+1) by omega]
   exact this.hset v
theorem Hh{a:Addr}(m:Nat):∀(vs:List Value) (i:Nat) (h:ad),gT h (adr a m) i vs=gT h a (m+i) vs
 | [],_,_=>rfl
 |v::vs,i,h=>by
  simp only[gT];rw[Hh m vs (i+1),AA];rfl
theorem HQ{t:TypeId}{a v:Value}{K:WK}{w:World}(c:Lq P t a v K w.heap):Wu P (Instr.storeAt t a v) K w:=by
 unfold Lq at c;split at c
 ·rename_i a
  cases hb:(bL v.cells.toList.length (bZ P t)&&co v.cells.toList)with
  |false=>rw[hb]at c;exact c.elim
  |true=>
   rw[hb]at c;simp only[bI]at hb;have n:=bm hb.1;obtain⟨c,hz⟩:=pz c;have g:v.cells.size=bZ P t:=by simpa using n
   have m:(∀j,j<v.cells.toList.length→Wr w.heap (adr a (0+j)))→(Instr.storeAt t (.pointer (some a)) v).run P w=.ok () (ko w (gT w.heap a 0 v.cells.toList)):=by
    intro d;have:=ry (P:=P) v.cells.toList 0 w hb.2 d;simp[Instr.storeAt,Instr.sureAddr,storeVar,hz,g,this]
   split at c
   ·rename_i u hu
    obtain⟨d,k⟩:=c;refine⟨_,m (fun j f=>?_),eT _ _,?_⟩
    ·rw[hu]at f;simp only[aV,List.length_nil]at f
     obtain rfl:j=0:=by omega
     exact d
    ·rw[hu];exact k
   ·obtain⟨d,k⟩:=c
    refine⟨_,m (fun j f=>?_),eT _ _,k⟩
    rcases d with e|⟨b,i,d⟩
    ·rw[e]at f;cases f
    ·cases i;exact d j f
 ·exact c.elim
theorem jR(z:Array Value)(n:Nat):(Builtin.zeroCells z n).toList=dE n z.toList:=by
 have key:∀n,(List.range (n*z.size)).map (fun i=>z[i%z.size]!)=(dQ n z.toList).flatten:=by
  intro n;induction n with
  |zero=>simp
  |succ n ih=>
   rw[Nat.succ_mul,List.range_add,List.map_append,ih,List.replicate_succ',List.flatten_append];congr 1
   simp only[List.map_map,List.flatten_cons,List.flatten_nil,List.append_nil];apply List.ext_getElem
   ·simp
   ·intro i a b
    simp only[List.length_map,List.length_range]at a;simp[Nat.mod_eq_of_lt a,a,Nat.add_mod]
 simpa[Builtin.zeroCells,dE]using key n
theorem dM{t e:TypeId}(h:vL P t=some e):P.underlying t=some (.slice e):=by
 unfold vL at h;split at h
 ·rename_i e' hu;simp only[bF.injEq]at h;subst h;exact hu
 ·cases h
theorem Ny{z:Value}{n:Nat}:((Array.range (n*z.cells.size)).map (z.cells[· %z.cells.size]!))=(dE n z.cells.toList).toArray:=by
 have:=jR z.cells n;unfold Builtin.zeroCells at this;apply c8;rw[this]
theorem B0{t e:TypeId}{n:Nat}{ps:Array (Nat×Value)}{z cs:List Value}(m:vL P t=some e)(hz:qv P e=some z)(q:n*bZ P e≤16777216)(j:z.length=bZ P e)
  (o:CI (fun i=>some (i*bZ P e,bZ P e)) (dE n z) ps.toList=some cs)(w:World):
  (Instr.buildSlice t n ps).run P w=.ok (.slice (some (aD w.heap)) n n) (ko w (hnew w.heap cs e)):=by
 obtain⟨v,hv,c⟩:=km hz;obtain⟨i,hi,k⟩:=qX hv;have p:(sizeOf e).run P w=.ok (bZ P e) w:=by simp[sizeOf,cU hi,bZ,hi]
 have f:v.cells.size=bZ P e:=by rw[←j,←c];simp
 have g:=sB _ _ _ o;have a:((Array.range (n*bZ P e)).map (fun i=>(if n*bZ P e=0 then #[]else v.cells)[i%(if n*bZ P e=0 then #[]else v.cells).size]!))=(dE n z).toArray:=by
  by_cases b:n*bZ P e=0
  ·have:(dE n z).length=0:=by simp[dE,j,b]
   rw[bU.1 this];simp[b]
  ·simp only[if_neg b]
   rw[←f,Ny,c]
 have d:¬(n*bZ P e>2^24):=by omega
 simp only[Instr.buildSlice,Sem.run_bind,aC (dM m),Result.andThen_ok,p,if_neg d];by_cases b:n*bZ P e=0
 ·simp only[if_pos b]at a
  simp only[if_pos b,Sem.run_bind,Sem.run_pure,Result.andThen_ok,a,g,kE]
 ·simp only[if_neg b]at a
  simp only[if_neg b,Sem.run_bind,Sem.run_pure,Result.andThen_ok,fa hv,a,g,kE]
theorem OX{h:ad}{a:Addr}{vs:List Value}(b:Row h a vs):∀j v,vs[j]? =some v→aR h (a.add j)=some v:=fun j v hv=>by
 rw[←tN];exact b j v hv
theorem xt{size n cap len:Nat}{b:Option Addr}{vs:List Value}{w:World}(c:SRow w.heap b (n*size) vs):(Builtin.firstCells size n (.slice b len cap)).run P w=.ok vs.toArray w:=by
 obtain⟨d,a⟩:=c;cases b with
 |none=>
  rcases a with rfl|⟨_,h,_⟩
  ·simp[Builtin.firstCells]
  ·cases h
 |some b=>
  refine run_firstCells_some w size n b len cap vs d fun j v hv=>?_
  rcases a with rfl|⟨_,h,a⟩
  ·cases hv
  ·cases h;exact OX a j v hv
theorem D3{a:Addr}{m:Nat}{xs:List Value}{w:World}(d:co xs=true)(c:tT w.heap (some a) m xs):
  (storeCells (a.add m) xs).run P w=.ok () (ko w (gT w.heap a m xs)):=by
 rcases c with rfl|⟨b,f,c⟩
 ·rfl
 ·cases f
  have:=ry (P:=P) (a:=adr a m) xs 0 w d fun j g=>by rw[AA,aL];exact c j g
  rw[←tN,this,Hh,cX]
set_option maxHeartbeats 1000000 in
theorem E8{t e u ty:TypeId}{b:Option Addr}{sl f c:Nat}{xs:List Value}{x:Value}{K:WK}{w:World}(B:vL P t=some e)(k:(∃e',P.underlying u=some (.slice e'))∨P.underlying u=some .string)
  (g:∀w,(Builtin.lenOf x).run P w=.ok c w)(hx:∀w':World,w'.heap=w.heap→(Builtin.firstCells (bZ P e) c x).run P w'=.ok xs.toArray w')
  (hi:∃i,P.info? e=some i)
  (h:RV P e b sl f c xs K w.heap):Wv P (Builtin.append_ #[t,u] ty #[.slice b sl f,x]) K w:=by
 obtain⟨i,hi⟩:=hi;have j:bZ P e=i.size:=by simp[bZ,hi]
 have C:qA P e=i.bytes:=by simp[qA,hi]
 by_cases hc:sl+c≤f
 ·obtain⟨J,L,E⟩:=h.1 hc
  refine⟨_,_,?_,eT w (fT w.heap b (sl*bZ P e) xs),E⟩;cases b with
  |none=>
   have d:=hx w rfl;rw[j]at d;rcases k with⟨e',hd⟩|hd<;>(simp[Builtin.append_,aC (dM B),aC hd,sizeOf,cU hi,g,hc,d];rfl)
  |some a=>
   have n:=D3 (P:=P) L J;have d:=hx w rfl;rw[j]at n d;rcases k with⟨e',hd⟩|hd<;>(simp[Builtin.append_,aC (dM B),aC hd,sizeOf,cU hi,g,hc,d,n,fT,j])
 ·obtain⟨q,z,H,hz,y,F,E⟩:=h.2 (by omega)
  obtain⟨v,hv,A⟩:=km hz;obtain⟨M,s,I⟩:=qX hv;rw[hi]at s;cases s;rw[C]at y F;have o:¬i.bytes=0:=by omega
  have p:¬(281474976710656<Builtin.nextslicecap (sl+c) f*i.bytes):=by omega
  have d:=hx w.drew rfl;have m:(Builtin.firstCells (bZ P e) sl (.slice b sl f)).run P w.drew=.ok q.toArray w.drew:=xt H;rw[j]at d m;have D:sl+c≤(Question.appendCap (sl+c) f e).cut (w.tape w.drawn (.appendCap (sl+c) f e)):=pP _ _;refine⟨_,ko w.drew (hnew w.heap (q++xs++dE ((Question.appendCap (sl+c) f e).cut (w.tape w.drawn (.appendCap (sl+c) f e))-(sl+c)) z) e),?_,⟨rfl,rfl,rfl⟩,E _ D⟩
  have G:(Builtin.zeroCells v.cells ((Question.appendCap (sl+c) f e).cut (w.tape w.drawn (.appendCap (sl+c) f e))-(sl+c)))=(dE ((Question.appendCap (sl+c) f e).cut (w.tape w.drawn (.appendCap (sl+c) f e))-(sl+c)) z).toArray:=by
   apply c8;rw[jR,A]
  rcases k with⟨e',hd⟩|hd<;>(simp[Builtin.append_,aC (dM B),aC hd,sizeOf,cU hi,g,hc,o,p,Question.forced,d,m,fa hv,kE,G,aD];rfl)
theorem EF{t:TypeId}{K:Prop}(h:QU P t K):∃i,P.info? t=some i:=by
 unfold QU at h;cases hi:P.info? t with
 |none=>rw[hi]at h;exact h.elim
 |some i=>exact⟨i,rfl⟩
theorem Ai{t:TypeId}(h:bZ P t≠0):∃i,P.info? t=some i:=by
 cases hi:P.info? t with
 |none=>exact absurd (by simp[bZ,hi]) h
 |some i=>exact⟨i,rfl⟩
theorem CO{size n:Nat}{x:ByteArray}{w:World}:(Builtin.firstCells size n (.string x)).run P w=.ok ((dN x).take n).toArray w:=by
 simp only[Builtin.firstCells,Sem.run_pure];congr 1
 apply c8;simp[dN,ph,gC,←List.map_take]
theorem ya{t u ty:TypeId}{s x:Value}{K:WK}{w:World}(c:(∃e',P.underlying u=some (.slice e'))∨P.underlying u=some .string)(h:Dp P t s x K w.heap):
  Wv P (Builtin.append_ #[t,u] ty #[s,x]) K w:=by
 unfold Dp at h;split at h
 ·rename_i e b sl sc a xl xc ht
  have hi:=EF h;obtain⟨⟨xs,d,g⟩,hz⟩:=pz h;exact E8 ht c (fun w=>rfl) (fun w' f=>xt (by rw[f];exact d)) hi g
 ·rename_i e b sl sc x ht
  cases hb:bL (bZ P e) 1 with
  |false=>rw[hb]at h;exact h.elim
  |true=>
   rw[hb]at h;have i:=bm hb;have j:(dN x).length=x.size:=by simp[dN]
   refine E8 ht c (fun w=>rfl) (fun w' _=>?_) (Ai (by omega)) h
   rw[CO,bD (by omega)]
 ·exact h.elim
theorem Bo{n:Int}(b:0≤n)(a:n≤9223372036854775807):IntKind.i64.wrap n=n:=IntWalk.i64_in n ⟨by omega,a⟩
theorem MU{t e u ty:TypeId}{b:Option Addr}{sl d:Nat}{k0 k:IntKind}{l:Int}{z:List Value}{K:WK}{w:World}(y:vL P t=some e)(A:P.underlying u=some (.int k0))
  (hz:qv P e=some z)(S:z.length=bZ P e)(W:0≤l)(R:l*qA P e≤2^48)(Y:l≤9223372036854775807)(h3:((sl+l.toNat:Nat):Int)≤9223372036854775807)
  (h:RV P e b sl d l.toNat (dE l.toNat z) K w.heap):Wv P (Builtin.append_ #[t,u] ty #[.slice b sl d,.int k l]) K w:=by
 obtain⟨v,hv,C⟩:=km hz;obtain⟨i,hi,Z⟩:=qX hv;have j:bZ P e=i.size:=by simp[bZ,hi]
 have F:qA P e=i.bytes:=by simp[qA,hi]
 have B:IntKind.wrap .i64 l=l:=Bo W Y;have c:¬l<0:=by omega
 rw[F]at R;have g:¬(281474976710656:Int)<l*i.bytes:=by omega
 have f:∀w':World,(asInt (.int k l)).run P w'=.ok l w':=fun w'=>rfl
 have G:(Builtin.zeroCells v.cells l.toNat)=(dE l.toNat z).toArray:=by apply c8;rw[jR,C]
 have s:l.toNat*i.size=0→dE l.toNat z= []:=fun O=>by
  have E:(dE l.toNat z).length=l.toNat*i.size:=by rw[←j,←S];unfold dE;simp
  exact bU.1 (by rw[E,O])
 by_cases hc:sl+l.toNat≤d
 ·obtain⟨L,R,J⟩:=h.1 hc
  refine⟨_,_,?_,eT w (fT w.heap b (sl*bZ P e) (dE l.toNat z)),J⟩;cases b with
  |none=>
   by_cases m:l.toNat*i.size=0
   ·simp[Builtin.append_,aC (dM y),aC A,sizeOf,cU hi,f,B,c,g,hc,m];rfl
   ·simp[Builtin.append_,aC (dM y),aC A,sizeOf,cU hi,f,B,c,g,hc,fa hv];rfl
  |some a=>
   have n:=D3 (P:=P) R L;rw[j]at n;by_cases m:l.toNat*i.size=0
   ·rw[s m]at n
    simp[Builtin.append_,aC (dM y),aC A,sizeOf,cU hi,f,B,c,g,hc,n,fT,j,m,s m]
   ·simp[Builtin.append_,aC (dM y),aC A,sizeOf,cU hi,f,B,c,g,hc,n,fT,j,m,fa hv,G]
 ·obtain⟨H,z',X,D,M,Q,J⟩:=h.2 (by omega)
  rw[hz]at D;cases D;rw[F]at M Q;have T:¬i.bytes=0:=by omega
  have p:¬(281474976710656<Builtin.nextslicecap (sl+l.toNat) d*i.bytes):=by omega
  have V:¬(9223372036854775807:Int)<((sl:Int)+(l.toNat:Int)):=by omega
  have o:¬(9223372036854775807:Int)<((sl:Int)+max l 0):=by omega
  have q:(Builtin.firstCells (bZ P e) sl (.slice b sl d)).run P w.drew=.ok H.toArray w.drew:=xt X;rw[j]at q;have N:sl+l.toNat≤(Question.appendCap (sl+l.toNat) d e).cut (w.tape w.drawn (.appendCap (sl+l.toNat) d e)):=pP _ _;refine⟨_,ko w.drew (hnew w.heap (H++dE l.toNat z++dE ((Question.appendCap (sl+l.toNat) d e).cut (w.tape w.drawn (.appendCap (sl+l.toNat) d e))-(sl+l.toNat)) z) e),?_,⟨rfl,rfl,rfl⟩,J _ N⟩
  have I:(Builtin.zeroCells v.cells ((Question.appendCap (sl+l.toNat) d e).cut (w.tape w.drawn (.appendCap (sl+l.toNat) d e))-(sl+l.toNat)))=(dE ((Question.appendCap (sl+l.toNat) d e).cut (w.tape w.drawn (.appendCap (sl+l.toNat) d e))-(sl+l.toNat)) z).toArray:=by
   apply c8;rw[jR,C]
  by_cases m:l.toNat*i.size=0
  ·rw[s m]at J⊢
   simp[Builtin.append_,aC (dM y),aC A,sizeOf,cU hi,f,B,c,g,hc,o,p,Question.forced,q,fa hv,kE,I,aD,m];rfl
  ·simp[Builtin.append_,aC (dM y),aC A,sizeOf,cU hi,f,B,c,g,hc,o,p,Question.forced,q,fa hv,kE,I,aD,m,G];rfl
theorem DQ{t u ty:TypeId}{k0:IntKind}{s x:Value}{K:WK}{w:World}(g:P.underlying u=some (.int k0))(h:DR P t s x K w.heap):
  Wv P (Builtin.append_ #[t,u] ty #[s,x]) K w:=by
 unfold DR at h;split at h
 ·rename_i e b sl sc k l ht
  split at h
  ·rename_i z hz
   cases hb:bL z.length (bZ P e)with
   |false=>rw[hb]at h;exact h.elim
   |true=>
    rw[hb]at h;obtain⟨⟨a,d,i,f⟩,c⟩:=h;exact MU ht g hz (bm hb) a d i f c
  ·exact h.elim
 ·exact h.elim
theorem kH:∀{a b:List Value},co a=true→co b=true→co (a++b)=true
 | [],_,_,h=>h
 |v::a,b,h,k=>by
  simp only[co,cY,bI]at h⊢;exact⟨h.1,kH h.2 k⟩
theorem zV{z:List Value}(h:co z=true):∀n,co (dE n z)=true
 |0=>rfl
 |n+1=>by
  have:dE (n+1) z=z++dE n z:=by simp[dE,List.replicate_succ]
  rw[this];exact kH h (zV h n)
theorem HR{t ty:TypeId}{x:Value}{K:WK}{w:World}(h:Lr P t x K w.heap):Wv P (Builtin.clear_ #[t] ty #[x]) K w:=by
 unfold Lr at h;split at h
 ·rename_i e a n c ht
  split at h
  ·rename_i z hz
   obtain⟨v,hv,d⟩:=km hz;cases ho:co z with
   |false=>rw[ho]at h;exact h.elim
   |true=>
    rw[ho]at h;obtain⟨g,i⟩:=h;refine⟨_,_,?_,eT w (fT w.heap a 0 (dE n z)),i⟩;cases a with
    |none=>simp[Builtin.clear_,aC (dM ht)];rfl
    |some a=>
     cases n with
     |zero=>simp[Builtin.clear_,aC (dM ht)];rfl
     |succ n=>
      have b:=D3 (P:=P) (zV ho (n+1)) g;rw[←tN,Fa]at b;have f:(Builtin.zeroCells v.cells (n+1)).toList=dE (n+1) z:=by rw[jR,d]
      simp[Builtin.clear_,aC (dM ht),fa hv,f,b,fT]
  ·exact h.elim
 ·exact h.elim
theorem zW:∀(xs:List Value) (n:Nat),co xs=true→co (xs.take n)=true
 | [],n,_=>by simp[co]
 |x::xs,0,_=>by simp[co]
 |x::xs,n+1,h=>by
  simp only[co,bI,List.take_succ_cons]at h⊢;exact⟨h.1,zW xs n h.2⟩
theorem F5(x:ByteArray):co (dN x)=true:=by
 have:∀l:List UInt8,co (l.map fun b=>.int .u8 (b.toNat:Int))=true:=by
  intro l;induction l with
  |nil=>rfl
  |cons b l ih=>simp[co,ih]
 exact this _
theorem Jr{t u ty:TypeId}{d s:Value}{K:WK}{w:World}(h:Qf P t d s K w.heap):Wv P (Builtin.copy_ #[t,u] ty #[d,s]) K w:=by
 unfold Qf at h;split at h
 ·rename_i e b dl dc a sl sc ht
  obtain⟨⟨xs,k,j,o,n⟩,hz⟩:=pz h;refine⟨_,_,?_,eT w (fT w.heap b 0 xs),n⟩;have g:=xt (P:=P) (len:=sl) (cap:=sc) k;cases b with
  |none=>simp[Builtin.copy_,aC (dM ht),Builtin.lenOf,hz,g,goInt];rfl
  |some c=>
   have f:=D3 (P:=P) (m:=0) o j;simp only[Addr.add,if_pos]at f;simp[Builtin.copy_,aC (dM ht),Builtin.lenOf,hz,g,goInt,f,fT]
 ·rename_i e b dl dc x ht
  cases hb:bL (bZ P e) 1 with
  |false=>rw[hb]at h;exact h.elim
  |true=>
   rw[hb]at h;have o:=bm hb;obtain⟨i,hi⟩:=Ai (P:=P) (t:=e) (by omega);have hz:(sizeOf e).run P w=.ok (bZ P e) w:=by simp[sizeOf,cU hi,bZ,hi]
   obtain⟨j,n⟩:=h;have q:(dN x).length=x.size:=by simp[dN]
   have p:(dN x).take (dV x.size dl)=(dN x).take dl:=by
    by_cases hx:x.size≤dl
    ·rw[show dV x.size dl=x.size from Nat.min_eq_left hx,bD (by omega),bD (by omega)]
    ·rw[show dV x.size dl=dl from Nat.min_eq_right (by omega)]
   have g:(Builtin.firstCells (bZ P e) (dV x.size dl) (.string x)).run P w=.ok ((dN x).take dl).toArray w:=by
    rw[CO,p]
   refine⟨_,_,?_,eT w (fT w.heap b 0 ((dN x).take dl)),n⟩;cases b with
   |none=>simp[Builtin.copy_,aC (dM ht),Builtin.lenOf,hz,g,goInt];rfl
   |some c=>
    have f:=D3 (P:=P) (m:=0) (zW _ dl (F5 x)) j;simp only[Addr.add,if_pos]at f;simp[Builtin.copy_,aC (dM ht),Builtin.lenOf,hz,g,goInt,f,fT]
 ·exact h.elim
theorem NQ(k v:Value)(a:Nat):∀(es:List MapEntry),(match es.findIdx? (fun e=>hE k e.key)with
  |some i=>(es.modify i (fun e=>{e with key:=k,val:=v}),a)
  |none=>(es++ [{key:=k,val:=v,born:=a}],a+1))=LY k v a es
 | []=>rfl
 |e::es=>by
  have b:=NQ k v a es;simp only[LY,List.findIdx?_cons];cases hk:hE k e.key with
  |true=>simp[List.modify]
  |false=>
   simp only[fQ,if_false];rw[←b];cases hf:es.findIdx? (fun e=>hE k e.key)with
   |none=>simp
   |some i=>simp[List.modify]
theorem wM{d:TypeDesc}{c:CK}(hd:oY d c)(x:c.den):∀(es:List MapEntry) (i:Nat),ED c es→
  Instr.findNow d (c.enc x) es i=some (match es.findIdx? (fun e=>hE (c.enc x) e.key)with
   |some j=>(es[j]?).map fun e=>(i+j,e.val)
   |none=>none)
 | [],i,_=>rfl
 |e::es,i,h=>by
  obtain⟨y,f⟩:=h e (by simp);have b:=Cu hd x y;rw[←f]at b;have g:=wM hd x es (i+1) fun e' a=>h e' (by simp[a])
  simp only[Instr.findNow,List.findIdx?_cons,b];cases hb:hE (c.enc x) e.key with
  |true=>simp
  |false=>
   simp only[fQ,if_false];rw[g];cases hf:es.findIdx? (fun e=>hE (c.enc x) e.key)with
   |none=>simp
   |some j=>simp[lz,Nat.add_comm 1 j]
theorem De{a b:ByteArray}(h:(a==b)=true):a=b:=by
 cases a with|mk a=>cases b with|mk b=>
 have h:(a==b)=true:=h;rw[eq_of_beq h]
theorem E3(a:ByteArray):(a==a)=true:=by
 cases a with|mk a=>
 exact beq_self_eq_true a
theorem H3{d:TypeDesc}{c:CK}(hd:oY d c)(x y:c.den)(h:hE (c.enc x) (c.enc y)=true):Instr.sameBits 10000 (c.enc y) (c.enc x)=true:=by
 rcases hd with⟨i,rfl,rfl⟩|⟨rfl,rfl⟩|⟨rfl,rfl⟩
 ·have h:x=y:=eq_of_beq (α:=Int) h
  subst h;have:∀n:Int,(i==i&&n==n)=true:=fun n=>by simp
  exact this x
 ·have h:x=y:=De h
  subst h;exact E3 x
 ·have h:x=y:=eq_of_beq (α:=Bool) h
  subst h;exact beq_self_eq_true (α:=Bool) x
theorem uS{w:World}{r:Nat}{es:Array MapEntry}{a:Nat}{o:Obj}(h:w.heap[r]? =some (.map es a)):(setObj r o).run P w=.ok () (ko w (w.heap.setIfInBounds r o)):=by
 simp only[setObj,Sem.run,h];rfl
theorem L7{t k e:TypeId}{d:TypeDesc}{c:CK}(A:P.underlying t=some (.map k e))(u:P.underlying k=some d)(hd:oY d c){r:Nat}{x:c.den}{v:Value}{w:World}(hm:Ov c w.heap r):
  (Instr.mapUpdate t (.map (some r)) (c.enc x) v).run P w=.ok () (ko w (Tt w.heap r (c.enc x) v)):=by
 obtain⟨es,a,j,f⟩:=hm;obtain⟨q,z,b,C⟩:=uV (P:=P) hd u x f w;rw[wM hd x es.toList 0 f]at b;have g:=NQ (c.enc x) v a es.toList;have n:Tt w.heap r (c.enc x) v=w.heap.setIfInBounds r (.map (LY (c.enc x) v a es.toList).1.toArray (LY (c.enc x) v a es.toList).2):=by
  simp only[Tt,j]
 rw[n,←g];simp only[Instr.mapUpdate,Sem.run_bind,aC A,Result.andThen_ok,lV j,nB hd u,z];cases hf:es.toList.findIdx? (fun e=>hE (c.enc x) e.key)with
 |none=>
  rw[hf]at b;simp only[bF.injEq]at b;subst b;simp only[uS j];congr 4
  apply c8;simp
 |some i=>
  rw[hf]at b;simp only[bF.injEq]at b;obtain⟨hi,p,_⟩:=List.findIdx?_eq_some_iff_getElem.1 hf;have s:es.toList[i]? =some es.toList[i]:=ag hi;rw[s]at b;simp only[gw,aL]at b;subst b;have m:es[i]? =some es.toList[i]:=by rw[←bE];exact s
  obtain⟨y,B⟩:=f es.toList[i] (List.getElem_mem hi);have o:Instr.sameBits 10000 (es.toList[i]).key (c.enc x)=true:=by
   rw[B]at p⊢;exact H3 hd x y p
  simp only[m,gw,Option.getD_some,Instr.keyThatStays,o,if_true,Sem.run_bind,Sem.run_pure,Result.andThen_ok,uS j];congr 4
  apply c8;simp
theorem x9{t:TypeId}{m k v:Value}{K:WK}{w:World}(h:Dn P t m k v K w.heap):Wu P (Instr.mapUpdate t m k v) K w:=by
 unfold Dn at h;split at h
 ·rename_i c e m hc
  obtain⟨i,d,f,a,hd⟩:=wG hc;obtain⟨g,rfl,r,rfl,hm,b⟩:=CK.dec_sound h;exact⟨_,L7 f a hd hm,eT _ _,b⟩
 ·exact h.elim
theorem KA(k:Value):∀(es:List MapEntry),(match es.findIdx? (fun e=>hE k e.key)with
  |some i=>es.eraseIdx i
  |none=>es)=KB k es
 | []=>rfl
 |e::es=>by
  have a:=KA k es;simp only[KB,List.findIdx?_cons];cases hk:hE k e.key with
  |true=>simp
  |false=>
   simp only[fQ,if_false];rw[←a];cases hf:es.findIdx? (fun e=>hE k e.key)<;>simp
theorem Kf{t k e ty:TypeId}{ts:Array TypeId}{d:TypeDesc}{c:CK}(u:ts[0]? =some t) (y:P.underlying t=some (.map k e)) (p:P.underlying k=some d) (hd:oY d c) {r:Nat} {x:c.den} {w:World} (hm:Ov c w.heap r):
  (Builtin.delete_ ts ty #[.map (some r),c.enc x]).run P w=.ok (.tuple #[]) (ko w (N0 w.heap r (c.enc x))):=by
 obtain⟨es,g,m,j⟩:=hm;obtain⟨q,v,b,A⟩:=uV (P:=P) hd p x j w;rw[wM hd x es.toList 0 j]at b;have f:=KA (c.enc x) es.toList;have n:N0 w.heap r (c.enc x)=w.heap.setIfInBounds r (.map (KB (c.enc x) es.toList).toArray g):=by
  simp only[N0,m]
 rw[n,←f];simp only[Builtin.delete_,u,List.getElem?_toArray,List.getElem?_cons_zero,List.getElem?_cons_succ,Sem.run_bind,aC y,Result.andThen_ok,lV m,nB hd p,v];cases hf:es.toList.findIdx? (fun e=>hE (c.enc x) e.key)with
 |none=>
  rw[hf]at b;simp only[bF.injEq]at b;subst b;simp[uS m]
 |some i=>
  rw[hf]at b;simp only[bF.injEq]at b;obtain⟨hi,z,_⟩:=List.findIdx?_eq_some_iff_getElem.1 hf;have s:es.toList[i]? =some es.toList[i]:=ag hi;rw[s]at b;simp only[gw,aL]at b;subst b;have o:i<es.size:=by simpa using hi
  have a:es.eraseIdxIfInBounds i=(es.toList.eraseIdx i).toArray:=by
   apply c8;simp[Array.eraseIdxIfInBounds,o]
  simp[uS m,a]
theorem DN{t ty:TypeId}{ts:Array TypeId}{m k:Value}{K:WK}{w:World}(f:ts[0]? =some t) (h:DP P t m k K w.heap):Wv P (Builtin.delete_ ts ty #[m,k]) K w:=by
 unfold DP at h;split at h
 ·rename_i c e m hc
  obtain⟨j,d,g,b,hd⟩:=wG hc;obtain⟨i,rfl,h⟩:=CK.dec_sound h;rcases h with⟨rfl,a⟩|⟨r,rfl,hm,a⟩
  ·refine⟨_,w,?_,Tame.refl w,a⟩
   simp[Builtin.delete_,f,aC g,nB hd b]
  ·exact⟨_,_,Kf f g b hd hm,eT _ _,a⟩
 ·exact h.elim
theorem OZ{t k e:TypeId}(b:P.underlying t=some (.map k e)){m:Option Nat}{a:Nat}{w:World}(hm:m=none∧a=0∨∃r es,m=some r∧w.heap[r]? =some (.map es a)):
  (Instr.range t (.map m)).run P w=.ok (.pointer (some (aD w.heap))) (ko w (w.heap.push (.mapIter m a #[] a))):=by
 rcases hm with⟨rfl,rfl⟩|⟨r,es,rfl,c⟩
 ·simp only[Instr.range,Sem.run_bind,aC b,Result.andThen_ok,Sem.run_pure,Ee,aD]
 ·simp only[Instr.range,Sem.run_bind,aC b,Result.andThen_ok,Sem.run_pure,lV c,Ee,aD]
theorem wz{w:World}{i:Nat}{m:Option Nat}{a:Nat}{b:Array Nat}{c:Nat}(h:w.heap[i]? =some (.mapIter m a b c)):(getObj i).run P w=.ok (.mapIter m a b c) w:=by
 simp only[getObj,Sem.run,h]
theorem JG{w:World}{i:Nat}{m:Option Nat}{a:Nat}{b:Array Nat}{c:Nat}{o:Obj}(h:w.heap[i]? =some (.mapIter m a b c)):(setObj i o).run P w=.ok () (ko w (w.heap.setIfInBounds i o)):=by
 simp only[setObj,Sem.run,h];rfl
theorem E0(n:Nat)(a:0<n)(w:World):∃k w',k<n∧(choose (.mapNext n)).run P w=.ok k w'∧Tame w w'∧w'.heap=w.heap:=by
 unfold choose;simp only[Sem.run];by_cases h:(Question.mapNext n).forced=true
 ·exact⟨0,w,a,by rw[if_pos h],Tame.refl w,rfl⟩
 ·refine⟨(Question.mapNext n).cut (w.tape w.drawn (.mapNext n)),{w with drawn:=w.drawn+1},Nat.mod_lt _ a,by rw[if_neg h],⟨rfl,rfl,rfl⟩,rfl⟩
theorem Jq{it:Value}{t:TypeId}{K:WK}{w:World}(h:Qe it K w.heap):Wv P (Instr.next it false t) K w:=by
 unfold Qe at h;split at h
 ·rename_i a
  obtain⟨L,m,j,f,s,hi,h⟩:=h;obtain⟨b,off,O⟩:=a;simp only at L hi h;subst L;rcases h with⟨rfl,R⟩|⟨r,es,z,rfl,M,B,E,J⟩
  ·exact⟨_,w,by simp only[Instr.next,Sem.run_bind,wz hi,Result.andThen_ok,Sem.run_pure],Tame.refl w,R⟩
  ·have v:(!f.isEmpty&& !es.isEmpty&&es.all (fun e=>decide (e.born≥s)))=false:=by
    rcases B with h|h|h<;>simp[h]
   obtain⟨left,i⟩:∃left,left=es.filter fun e=> !f.contains e.born:=⟨_,rfl⟩
   obtain⟨n,q⟩:∃n,n=left.filter (·.born<j):=⟨_,rfl⟩
   obtain⟨new,hnew⟩:∃new,new=left.filter (·.born≥j):=⟨_,rfl⟩
   obtain⟨d,g⟩:∃d:Array (Option MapEntry),d=(if n.isEmpty then #[none]else #[])++(n++new).map some:=⟨_,rfl⟩
   have D:0<d.size:=by
    rw[g];by_cases A:n.isEmpty=true
    ·simp[A];omega
    ·have:n.size≠0:=by simpa using A
     simp[A];omega
   obtain⟨k,F,S,y,N,H⟩:=E0 (P:=P) d.size D w;obtain⟨c,hc⟩:∃c,d[k]? =some c:=⟨d[k],Array.getElem?_eq_getElem S⟩;have G:F.heap[b]? =some (.mapIter (some r) j f s):=by rw[H];exact hi
   have p:(!f.isEmpty&& !es.isEmpty&&es.all fun x=>decide (x.born≥s))=false:=v
   cases c with
   |none=>
    refine⟨.tuple #[.bool false],F,?_,N,?_⟩
    ·simp only[Instr.next,Sem.run_bind,wz hi,Result.andThen_ok,Sem.run_pure,lV M,p,fQ,if_false,←i,←q,←hnew,←g,y,hc]
    ·rw[H]
     have u:n.isEmpty=true:=by
      have hm:none∈d:=pr hc;rw[g]at hm;by_cases A:n.isEmpty=true
      ·exact A
      ·simp[A]at hm
     refine E fun e Q I=>?_
     cases hs:f.contains e.born with
     |true=>rfl
     |false=>
      have o:e∈n:=by
       rw[q,i];simp only[pR];exact⟨⟨by simpa using Q,by rw[hs];rfl⟩,by simpa using I⟩
      rw[Array.isEmpty_iff]at u;rw[u]at o;simp at o
   |some e=>
    have o:e∈es∧f.contains e.born=false:=by
     have hm:some e∈d:=pr hc;have C:e∈left:=by
      rw[g]at hm;rw[Array.mem_append]at hm;rcases hm with hm|hm
      ·split at hm<;>simp at hm
      ·simp only[Array.mem_map,bF.injEq,exists_eq_right,Array.mem_append]at hm
       rcases hm with hm|hm
       ·rw[q]at hm;exact(pR.1 hm).1
       ·rw[hnew]at hm;exact(pR.1 hm).1
     rw[i]at C;have:=pR.1 C;exact⟨this.1,by simpa using this.2⟩
    refine⟨.tuple #[.bool true,e.key,e.val],ko F (F.heap.setIfInBounds b (.mapIter (some r) j (f.push e.born) z)),?_,N.trans (eT _ _),?_⟩
    ·simp only[Instr.next,Sem.run_bind,wz hi,Result.andThen_ok,Sem.run_pure,lV M,p,fQ,if_false,←i,←q,←hnew,←g,y,hc,JG G]
    ·rw[H]
     exact J e (by simpa using o.1) o.2
 ·exact h.elim
theorem F7{t e:TypeId}{z:List Value}{k k':IntKind}{l c:Int}{w:World}(q:vL P t=some e)(hz:qv P e=some z)(f:z.length=bZ P e)(A:0≤l)(D:l≤c)(C:c≤9223372036854775807)(B:qA P e*c≤2^48):
  (Instr.makeSlice t (.int k l) (.int k' c)).run P w=.ok (.slice (some (aD w.heap)) l.toNat c.toNat) (ko w (hnew w.heap (dE c.toNat z) e)):=by
 obtain⟨v,hv,b⟩:=km hz;obtain⟨i,hi,y⟩:=qX hv;have g:bZ P e=i.size:=by simp[bZ,hi]
 have o:qA P e=i.bytes:=by simp[qA,hi]
 have n:v.cells.size=i.size:=by rw[←g,←f,←b];simp
 have u:=Bo A (by omega);have hc:=Bo (show 0≤c by omega) C
 rw[o]at B;have c1:¬(c<0):=by omega
 have c2:¬(281474976710656<(i.bytes:Int)*c):=by omega
 have p:¬(l<0):=by omega
 have s:¬(c<l):=by omega
 by_cases a:c.toNat*i.size=0
 ·have m:(dE c.toNat z).length=0:=by simp[dE,f,g,a]
  rw[bU.1 m];simp[Instr.makeSlice,aC (dM q),asInt,asIntOf,cU hi,u,hc,c1,c2,p,s,sizeOf,a,kE]
 ·have d:((Array.range (c.toNat*i.size)).map (fun j=>v.cells[j%v.cells.size]!))=(dE c.toNat z).toArray:=by
   rw[←n,Ny,b]
  have key:(newRow e ((Array.range (c.toNat*i.size)).map (fun j=>v.cells[j%v.cells.size]!))).run P w=.ok (aD w.heap) (ko w (hnew w.heap (dE c.toNat z) e)):=by
   rw[d,kE]
  simp[Instr.makeSlice,aC (dM q),asInt,asIntOf,cU hi,u,hc,c1,c2,p,s,sizeOf,a,fa hv];rw[key];rfl
theorem Agree.args{N:Nat}{r:cJ}{a:Act}(h:Agree N r a){os:Array Operand}{vs:List Value}(hv:nR r os.toList=some vs):os.map a.eval=vs.toArray:=by
 rw[←mB h hv];apply c8;simp
theorem HC.out{f:FuncId}{args:List Value}{ks:List Kind}{K:WK}{w:World}(h:HC P f args ks (fun x h'=>K (C7 ks (m9 ks x)) h') w.heap):KQ P (callFunc f args.toArray) K w:=by
 rcases h.run w rfl with⟨c,d⟩|⟨v,w',c,b,x,rfl,a⟩
 ·refine .inr (.inr (.inl ⟨f,args.toArray,c,d.mono ?_⟩))
  rintro e w' ⟨b,x,rfl,a⟩;exact⟨b,_,rfl,a⟩
 ·exact .inl ⟨_,w',c,b,a⟩
theorem PF{b a e:TypeId}{s:ByteArray}{w:World}(j:P.underlying b=some .string)(hd:P.underlying a=some (.slice e))(g:P.underlying e=some (.int .u8)):
  ∃c,s.size≤c∧(convert b a (.string s)).run P w=.ok (.slice (some (aD w.heap)) s.size c) (ko w.drew (w.heap.push (.cells (dN s++dQ (c-s.size) (Value.int .u8 0)).toArray e (c,c+1)))):=by
 have d:s.size≤grownCap w s.size 0 e:=pP _ _;refine⟨_,d,?_⟩;rw[Go.Lib.run_convert_string_bytes w b a e s j hd g];have hc:(Go.Lib.bytesCells w e s).size=grownCap w s.size 0 e:=by
  unfold Go.Lib.bytesCells;rw[Array.size_append,Array.size_map,Array.size_replicate,show s.data.size=s.size from rfl]
  omega
 have f:(dN s++dQ (grownCap w s.size 0 e-s.size) (Value.int .u8 0)).toArray=Go.Lib.bytesCells w e s:=by
  unfold Go.Lib.bytesCells dN;apply c8;simp
 rw[f];unfold Go.Lib.bytesWorld World.freeze;rw[if_neg (by omega),hc];unfold World.alloc World.drew ko;congr 1
 congr 1
 apply Array.ext (by simp);intro i m k;rw[Array.getElem_modify];simp only[Array.getElem_push];split
 ·rename_i e
  subst e;simp
 ·rename_i e
  have hi:i<w.heap.size:=by simp at k;omega
  rw[dif_pos hi,dif_pos hi]
theorem Bq{o:Oper}{r:cJ}{K:WK}{w:World}{N:Nat}{a:Act}(D:Agree N r a)(j:FV P o r K w.heap):KQ P (execOp a.eval o) K w:=by
 have A:∀{x:Operand} {v:Value},dA r x=some v→a.eval x=v:=fun h=>kz D h
 obtain⟨J,W,type,nT,F,G⟩:=o;cases W with
 |alloc t=>
  simp only[FV]at j;split at j
  ·rename_i z hz
   obtain⟨v,hv,M⟩:=km hz;have C:(Instr.alloc t true (.tuple #[])).run P w=.ok (.pointer (some (aD w.heap))) (ko w (hnew w.heap z t)):=by
    simp[Instr.alloc,fa hv,newVar,kE,M]
   exact Wv.out ⟨_,_,C,eT _ _,j⟩
  ·exact j.elim
 |box t x=>
  simp only[FV]at j;split at j
  ·rename_i v hv
   have C:(Instr.box t v).run P w=.ok (.pointer (some (aD w.heap))) (ko w (hnew w.heap v.cells.toList t)):=by
    simp[Instr.box,newVar,kE]
   simp only[execOp,A hv];exact Wv.out ⟨_,_,C,eT _ _,j⟩
  ·exact j.elim
 |build t ps=>
  simp only[FV]at j;split at j
  ·rename_i vs p
   split at j
   ·rename_i cs hcs
    have I:(ps.map fun x=>(x.1,a.eval x.2))=vs.toArray:=by
     rw[←oJ D p];apply c8;simp
    have C:=Av (ps:=vs.toArray) (by simpa using hcs) w;simp only[execOp];rw[show(ps.map fun(i,x)=>(i,a.eval x))=vs.toArray from I]
    exact Wv.out ⟨_,w,C,Tame.refl w,j⟩
   ·exact j.elim
  ·exact j.elim
 |buildSlice t n ps=>
  simp only[FV]at j;split at j
  ·rename_i e vs E p
   split at j
   ·rename_i z hz
    cases hb:(xN (n*bZ P e) 16777216&&bL z.length (bZ P e))with
    |false=>rw[hb]at j;exact j.elim
    |true=>
     rw[hb]at j;simp only[bI]at hb;simp only[cond_true]at j;split at j
     ·rename_i cs hcs
      have I:(ps.map fun x=>(x.1,a.eval x.2))=vs.toArray:=by
       rw[←oJ D p];apply c8;simp
      have C:=B0 (ps:=vs.toArray) E hz (jf hb.1) (bm hb.2) (by simpa using hcs) w;simp only[execOp];rw[show(ps.map fun(i,x)=>(i,a.eval x))=vs.toArray from I]
      exact Wv.out ⟨_,_,C,eT _ _,j⟩
     ·exact j.elim
   ·exact j.elim
  ·exact j.elim
 |store t x y=>
  simp only[FV]at j;split at j
  ·rename_i b v hb hv
   simp only[execOp,A hb,A hv];exact Wu.out (HQ j)
  ·exact j.elim
 |mapUpdate t m k x=>
  simp only[FV]at j;split at j
  ·rename_i mv kv xv hm B hx
   simp only[execOp,A hm,A B,A hx];exact Wu.out (x9 j)
  ·exact j.elim
 |insert t m k x=>
  simp only[FV]at j;split at j
  ·rename_i mv kv xv hm B hx
   simp only[execOp,A hm,A B,A hx];exact Wu.out (x9 j)
  ·exact j.elim
 |makeMap t n=>
  simp only[FV]at j;cases n with
  |none=>exact Wv.out ⟨_,ko w (w.heap.push (.map #[] 0)),by simp[Instr.makeMap];rfl,eT _ _,j⟩
  |some n=>
   simp only at j;split at j
   ·rename_i k i hn E
    exact Wv.out ⟨_,ko w (w.heap.push (.map #[] 0)),by simp[Instr.makeMap,A hn,aC E,asInt,asIntOf];rfl,eT _ _,j⟩
   ·exact j.elim
 |makeSlice t l c=>
  simp only[FV]at j;split at j
  ·rename_i e k l' k' c' E T hc
   split at j
   ·rename_i z hz
    cases hb:bL z.length (bZ P e)with
    |false=>rw[hb]at j;exact j.elim
    |true=>
     rw[hb]at j;obtain⟨⟨V,R,O,X⟩,j⟩:=j;simp only[execOp,A T,A hc];exact Wv.out ⟨_,_,F7 E hz (bm hb) V R O X,eT _ _,j⟩
   ·exact j.elim
  ·exact j.elim
 |convert s d x=>
  simp only[FV]at j;split at j
  ·rename_i e v L hd hx
   cases hu:Mj P e with
   |false=>rw[hu]at j;exact j.elim
   |true=>
    rw[hu]at j;obtain⟨c,hc,H⟩:=PF (w:=w) (s:=v) L hd (EE hu);simp only[execOp,A hx];exact Wv.out ⟨_,_,H,⟨rfl,rfl,rfl⟩,j c hc⟩
  ·exact j.elim
 |range t x=>
  simp only[FV]at j;split at j
  ·rename_i k e m hu hx
   obtain⟨S,hm,j⟩:=j;simp only[execOp,A hx];exact Wv.out ⟨_,_,OZ hu hm,eT _ _,j⟩
  ·exact j.elim
 |next it isS=>
  cases isS with
  |true=>simp only[FV]at j
  |false=>
   simp only[FV]at j;split at j
   ·rename_i v hv
    simp only[execOp,A hv];exact Wv.out (Jq j)
   ·exact j.elim
 |call c=>
  simp only[FV]at j;have eb:∀{b:Builtin} {vs:List Value},c.callee=.builtin b→nR r c.args.toList=some vs→∃cs:Array Bool,∀w,(execOp a.eval ⟨J,.call c,type,nT,F,G⟩).run P w=
    (builtin b c.argTypes type cs vs.toArray).run P w:=by
   intro b vs hc p;refine⟨c.args.map fun| .const _=>true|_=>false,fun w=>?_⟩
   simp[execOp,resolve,hc,D.args p,invoke];rfl
  have wo:∀{s s':Sem Next},(∀w,s.run P w=s'.run P w)→KQ P s' K w→KQ P s K w:=by
   intro s s' C h;unfold KQ at h⊢;simp only[C];exact h
  split at j
  ·rename_i s x hc p
   split at j
   ·rename_i t u hat
    obtain⟨cs,er⟩:=eb hc p;refine wo er ?_;have q:c.argTypes= #[t,u]:=by apply c8;rw[hat]
    simp only[builtin,q];split at j
    ·rename_i e' hu;exact Wv.out (ya (.inl ⟨e',hu⟩) j)
    ·rename_i hu;exact Wv.out (ya (.inr hu) j)
    ·rename_i k0 hu;exact Wv.out (DQ hu j)
    ·exact j.elim
   ·exact j.elim
  ·rename_i x hc p
   split at j
   ·rename_i t hat
    obtain⟨cs,er⟩:=eb hc p;refine wo er ?_;have q:c.argTypes= #[t]:=by apply c8;rw[hat]
    simp only[builtin,q];exact Wv.out (HR j)
   ·exact j.elim
  ·rename_i s x hc p
   split at j
   ·rename_i t u hat
    obtain⟨cs,er⟩:=eb hc p;refine wo er ?_;have q:c.argTypes= #[t,u]:=by apply c8;rw[hat]
    simp only[builtin,q];exact Wv.out (Jr j)
   ·exact j.elim
  ·rename_i m k hc p
   split at j
   ·rename_i t u hat
    obtain⟨cs,er⟩:=eb hc p;refine wo er ?_;simp only[builtin];exact Wv.out (DN (by rw[←bE,hat];rfl) j)
   ·exact j.elim
  ·rename_i f args hc p
   unfold TU at j;split at j
   ·exact j.elim
   ·rename_i ks hks
    split at j
    ·rename_i f
     refine wo (s':=callFunc f args.toArray) (fun w=>?_) j.out
     simp[execOp,resolve,hc,D.args p,Act.eval,Deferred.ofValue,invoke]
    ·rename_i f hf
     split at j
     ·rename_i fv hfv
      rcases j.run with⟨g,first,cap,rfl,Q⟩|⟨l,rfl,Q⟩
      rotate_left
      ·obtain⟨fn,tmps,assign,body,R,O⟩:=Q.run w rfl
       refine .inr (.inr (.inr ⟨l,fn,tmps,assign,body,?_,fun c cs=>?_⟩))
       ·rw[←R]
        simp[execOp,resolve,hc,D.args p,A hfv,Deferred.ofValue,invoke]
       ·obtain⟨b,w',E,B,L⟩:=O c cs
        refine⟨b,w',E,?_,L⟩;obtain⟨t,e,B⟩:=rJ B;have T:ks.length=1:=by rw[←sK ks t,←e];rfl
        match ks,T,t,e,B with
        | [k],_,t,e,B=>rw[←e]at B;exact B
      refine wo (s':=callFunc g (first.toList++args++cap.toList).toArray) (fun w=>?_) Q.out
      have e:first++args.toArray++cap=(first.toList++args++cap.toList).toArray:=by apply c8;simp
      rw[←e];simp[execOp,resolve,hc,D.args p,A hfv,Deferred.ofValue,invoke]
     ·exact j.elim
  ·exact j.elim
 |_=>simp only[FV]at j
end Go.Lift
