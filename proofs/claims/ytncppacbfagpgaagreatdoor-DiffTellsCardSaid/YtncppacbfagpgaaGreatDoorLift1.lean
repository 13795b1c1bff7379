/- A part of the proof that the named laws of this program answer true, whatever the input. -/
import Derived.Test.YtncppacbfagpgaaGreatDoorLift0
import Derived.Laws.Append
import Derived.Laws.Cover3
import Derived.Laws.StructEq
import Derived.Laws.BytesString
import Derived.Lib.ConvBytes
open Array renaming ext'→dR,getElem?_toList→cd,mem_of_getElem?→tM,mem_filter→uq
open Bool renaming and_eq_true→bH,false_eq_true→gk
open ByteArray renaming data_extract→nK
open List renaming extract_eq_take_drop→gG,map_cons→eB,foldl_cons→kH,map_map→tl,take_of_length_le→bo,length_cons→al,cons_append→cJ,replicate→iP,length_eq_zero_iff→aw,getElem?_eq_getElem→ae
open Nat renaming beq→cg,add_assoc→mz,ble→BZ,eq_of_beq_eq_true→bG,le_of_ble_eq_true→lK,add_zero→eN,zero_add→aQ,le_add_right→um,min→fc
open Option renaming some→bQ,isSome_iff_exists→jQ,map_some→jd
open Prod renaming mk→sZ
open UInt8 renaming ofNat→ii
namespace Go.Lift
open Go
def ZT(S:Option (ad→Prop))(h:ad):Prop:=match S with|none=>True|some f=>f h
def Yv(P:Program)(s:Sem Value)(K:RK)(h:ad):Prop:=∃v S,K v S∧ZT S h∧∀w:World,ZT S w.heap→s.run P w=.ok v w
theorem Yv.of_pure{P:Program}{s:Sem Value}{K:RK}{h:ad}{v:Value}(a:K v none)(b:∀w:World,s.run P w=.ok v w):Yv P s K h:=
 ⟨v,none,a,trivial,fun w _=>b w⟩
variable {P:Program}
theorem AX{t:TypeId}{f:Nat}{u:TypeId}{off:Nat}(h:AY P t f=some (u,off)):
  ∃fs g,P.underlying t=some (.struct fs)∧fs[f]? =some g∧g.type=u∧g.offset=off:=by
 unfold AY at h;split at h
 ·rename_i fs hu
  split at h
  ·rename_i g hg
   simp only[bQ.injEq,sZ.injEq]at h;exact⟨fs,g,hu,by simpa using hg,h.1,h.2⟩
  ·cases h
 ·cases h
theorem De{t:TypeId}(h:cg (cC P t) 0=false)(w:World):(sizeOf t).run P w=.ok (cC P t) w:=by
 unfold cC at h⊢;cases hi:P.info? t with
 |none=>rw[hi]at h;cases h
 |some i=>simp[sizeOf,dJ hi]
theorem HT{t:TypeId}{f:Nat}{u:TypeId}{off:Nat}{a:Addr}{K:RK}{h:ad}(d:AY P t f=some (u,off))
  (b:bif cg (cC P u) 0 then False else K (.pointer (some (adr a off))) none):Yv P (Instr.fieldAt t (.pointer (some a)) f) K h:=by
 obtain⟨k,g,i,j,rfl,rfl⟩:=AX d;cases hz:cg (cC P g.type) 0 with
 |true=>rw[hz]at b;exact b.elim
 |false=>
  rw[hz]at b;refine .of_pure b fun w=>?_
  have c:cC P g.type≠0:=fun e=>by rw[e]at hz;cases hz
  simp only[Instr.fieldAt,Sem.run_bind,aM i,Result.andThen_ok,j,Instr.sureAddr,Sem.run_pure,fieldPlace,De hz];simp[c,yk]
theorem zQ{t:TypeId}{i:TypeInfo}(_:P.info? t=some i)(a:∃d,P.underlying t=some d)(w:World):(isAgg t).run P w=.ok (zR P t) w:=by
 obtain⟨d,hd⟩:=a;simp only[isAgg,Sem.run_bind,aM hd,Result.andThen_ok];unfold zR;rw[hd];cases d<;>rfl
theorem Ef{c:BinOp}{k k':IntKind}{a b:Int}{K:RK}{h:ad}(f:c=.shl∨c=.shr)(hv:Sy c k a b K):Yv P (Op.shift c k a k' b) K h:=by
 rcases f with rfl|rfl
 ·obtain⟨e,d⟩:=hv
  refine .of_pure d fun w=>?_
  simp[Op.shift,Int.not_lt.2 e]
 ·obtain⟨e,d⟩:=hv
  refine .of_pure d fun w=>?_
  simp[Op.shift,Int.not_lt.2 e]
theorem Tp{c:BinOp}{k:IntKind}{a b:Int}{K:RK}{h:ad}(hv:abX c k a b K)(f:c≠ .shl∧c≠ .shr):Yv P (binOp c 0 (.int k a) (.int k b)) K h:=by
 cases c<;>simp only[abX]at hv
 case quo=>obtain⟨e,d⟩:=hv;exact .of_pure d fun w=>by simp[binOp,Op.intDiv,e]
 case rem=>obtain⟨e,d⟩:=hv;exact .of_pure d fun w=>by simp[binOp,Op.intDiv,e]
 all_goals exact .of_pure hv fun w=>by simp[binOp,Op.intArith,Op.intBits,Op.intCmp]
theorem Kr(c:BinOp)(t:TypeId)(k k':IntKind)(a b:Int):binOp c t (.int k a) (.int k' b)=binOp c 0 (.int k a) (.int k' b):=by
 cases c<;>rfl
theorem Sv{c:BinOp}{t:TypeId}{a b:ByteArray}{K:RK}{h:ad}(hv:abE c a b K):Yv P (binOp c t (.string a) (.string b)) K h:=by
 cases c<;>simp only[abE]at hv
 case add=>
  obtain⟨e,d⟩:=hv;refine .of_pure d fun w=>?_
  have:¬(((a.size+b.size:Nat):Int)>IntKind.i64.max):=by
   have:IntKind.i64.max=9223372036854775807:=by decide
   omega
  simp only[binOp,Op.stringOp,if_neg this,Sem.run_pure]
 all_goals exact .of_pure hv fun w=>by simp[binOp,Op.stringOp]
theorem uS{t:TypeId}{x y:Value}{b:Bool}{w:World}(h:∀d,(Op.equalIn (d+1) t x y).run P w=.ok b w):(Op.equal t x y).run P w=.ok b w:=h 9999
theorem JZ{t:TypeId}{e:TypeId}(b:P.underlying t=some (.pointer e))(a:Option Addr)(w:World):(Op.equal t (.pointer a) (.pointer none)).run P w=.ok a.isNone w:=by
 refine uS fun d=>?_
 simp only[Op.equalIn,Sem.run_bind,aM b,Result.andThen_ok];cases a<;>rfl
theorem TD(e:BinOp)(t:TypeId)(x y:Operand)(a b:Value)(h:∀c d,a=.agg c→b=.agg d→False)(hi:a=.nilIface→b=.nilIface→False)(w:World):
  (eqGuard e t x y a b).run P w=.ok () w:=by
 cases e;case eql=>cases a<;>cases b<;>first|rfl|exact(hi rfl rfl).elim|exact(h _ _ rfl rfl).elim
 case neq=>cases a<;>cases b<;>first|rfl|exact(hi rfl rfl).elim|exact(h _ _ rfl rfl).elim
 all_goals rfl
theorem Xf(t:TypeId)(x y:Value)(hx:∀k a,x≠ .int k a)(d:∀s,x≠ .string s)(c:∀k a,x≠ .float k a)(hc:∀k a b,x≠ .complex k a b):binOp .eql t x y=(do pure (.bool (←Op.equal t x y))):=by
 cases x<;>first|rfl|exact absurd rfl (hx _ _)|exact absurd rfl (d _)|exact absurd rfl (c _ _)|exact absurd rfl (hc _ _ _)
theorem Xe(t:TypeId)(x y:Value)(hx:∀k a,x≠ .int k a)(d:∀s,x≠ .string s)(c:∀k a,x≠ .float k a)(hc:∀k a b,x≠ .complex k a b):binOp .neq t x y=(do pure (.bool (!(←Op.equal t x y)))):=by
 cases x<;>first|rfl|exact absurd rfl (hx _ _)|exact absurd rfl (d _)|exact absurd rfl (c _ _)|exact absurd rfl (hc _ _ _)
theorem uT{t:TypeId}{neg:Bool}{x y:Value}{b:Bool}{w:World}(e:(Op.equal t x y).run P w=.ok b w)
  (hx:∀k a,x≠ .int k a)(d:∀s,x≠ .string s)(c:∀k a,x≠ .float k a)(hc:∀k a b,x≠ .complex k a b):
  (binOp (bif neg then .neq else .eql) t x y).run P w=.ok (.bool (bif neg then !b else b)) w:=by
 cases neg
 ·simp only[cond_false,Xf t x y hx d c hc,Sem.run_bind,e,Result.andThen_ok,Sem.run_pure]
 ·simp only[cond_true,Xe t x y hx d c hc,Sem.run_bind,e,Result.andThen_ok,Sem.run_pure]
theorem Jz{t:TypeId}{neg:Bool}{x y:Value}{K:RK}{h:ad}(hv:aax P t neg x y K):
  (∀c d,x=.agg c→y=.agg d→False)∧(x=.nilIface→y=.nilIface→False)∧Yv P (binOp (bif neg then .neq else .eql) t x y) K h:=by
 unfold aax at hv;split at hv
 ·rename_i e a hu
  refine⟨nofun,nofun,.of_pure hv fun w=>?_⟩
  exact uT (JZ hu a w) nofun nofun nofun nofun
 ·rename_i k e a hu
  refine⟨nofun,nofun,.of_pure hv fun w=>?_⟩
  refine uT ?_ nofun nofun nofun nofun;refine uS fun d=>?_
  simp only[Op.equalIn,Sem.run_bind,aM hu,Result.andThen_ok];cases a<;>rfl
 ·rename_i e a _ _ _ _ hu
  refine⟨nofun,nofun,.of_pure hv fun w=>?_⟩
  refine uT ?_ nofun nofun nofun nofun;refine uS fun d=>?_
  simp only[Op.equalIn,Sem.run_bind,aM hu,Result.andThen_ok];cases a<;>rfl
 ·exact hv.elim
theorem AF{w:World}{a b:Addr}(d:gT w.heap a)(f:gT w.heap b):(sameAddr a b).run P w=.ok (a==b) w:=by
 obtain⟨g,p,d,z⟩:=d;obtain⟨i,o,f,y⟩:=f;by_cases c:a.block=b.block
 ·simp[sameAddr,c]
 ·have j:(a==b)=false:=by
   rw[beq_eq_false_iff_ne];intro e;exact c (by rw[e])
  have v:w.shape? a.block=some (p,g.size):=by simp[World.shape?,d]
  have s:w.shape? b.block=some (o,i.size):=by simp[World.shape?,f]
  have t:∀n,w.frozen? ({block:=a.block,off:=n}:Addr)=false:=fun n=>by simp[World.frozen?,d]
  have u:∀n,w.frozen? ({block:=b.block,off:=n}:Addr)=false:=fun n=>by simp[World.frozen?,f]
  have q:w.frozen? a=false:=by simp[World.frozen?,d]
  have k:w.frozen? b=false:=by simp[World.frozen?,f]
  obtain⟨m,hm⟩:∃m,g.size=m+1:=⟨g.size-1,by omega⟩
  obtain⟨n,x⟩:∃n,i.size=n+1:=⟨i.size-1,by omega⟩
  simp[sameAddr,c,noView,viewAt,mayBeOne,stringish,v,s,t,u,q,k,hm,x,j]
theorem Nr{t:TypeId}{neg:Bool}{x y:Value}{K:RK}{h:ad}(hv:adb P t neg x y K h):
  (∀c d,x=.agg c→y=.agg d→False)∧(x=.nilIface→y=.nilIface→False)∧Yv P (binOp (bif neg then .neq else .eql) t x y) K h:=by
 unfold adb at hv;split at hv
 ·rename_i a b hu
  refine⟨nofun,nofun,.of_pure hv fun w=>?_⟩
  refine uT ?_ nofun nofun nofun nofun;refine uS fun d=>?_
  simp only[Op.equalIn,Sem.run_bind,aM hu,Result.andThen_ok,Sem.run_pure]
 ·rename_i e a b hu
  obtain⟨i,m,n⟩:=hv;refine⟨nofun,nofun,_,_,n,m,fun w k=>?_⟩
  refine uT ?_ nofun nofun nofun nofun;have f:cg (cC P e) 0=false:=by
   cases hb:cg (cC P e) 0 with
   |false=>rfl
   |true=>rw[hb]at i;exact i.elim
  have g:cC P e≠0:=fun e=>by rw[e]at f;cases f
  refine uS fun d=>?_
  simp only[Op.equalIn,Sem.run_bind,aM hu,Result.andThen_ok];cases a with
  |none=>cases b<;>rfl
  |some a=>cases b with
   |none=>rfl
   |some b=>
    obtain⟨j,h2⟩:=k a b rfl rfl;simp only[Sem.run_bind,De f,Result.andThen_ok,ne_eq,g,not_false_eq_true,if_true,AF j h2];rfl
 ·exact hv.elim
theorem SU{e:BinOp}{t:TypeId}{x y:Value}{K:RK}{h:ad}(hv:abL P e t x y K h):
  (∀c d,x=.agg c→y=.agg d→False)∧(x=.nilIface→y=.nilIface→False)∧Yv P (binOp e t x y) K h:=by
 unfold abL at hv;split at hv
 ·rename_i k a k' b
  refine⟨nofun,nofun,?_⟩;rw[Kr];split at hv
  ·exact Ef (k':=k') (.inl rfl) hv
  ·exact Ef (k':=k') (.inr rfl) hv
  ·rename_i h1 h2
   cases hk:Oy k' k with
   |false=>rw[hk]at hv;exact hv.elim
   |true=>rw[hk]at hv;have:=Ey hk;subst this;exact Tp hv ⟨h1,h2⟩
 ·exact⟨nofun,nofun,Sv hv⟩
 ·split at hv
  ·exact Nr (neg:=false) hv
  ·exact Nr (neg:=true) hv
  ·exact hv.elim
theorem Qz{u:TypeId}{cs:List Value}{off:Nat}(a:((P.underlying u).isSome&&(P.info? u).isSome)=true){w:World}(c:zR P u=true):
  (part u cs.toArray off).run P w=.ok (.agg ((cs.drop off).take (cC P u)).toArray) w:=by
 simp only[bH,jQ]at a;obtain⟨a,i,hi⟩:=a;have b:(sizeOf u).run P w=.ok (cC P u) w:=by simp[sizeOf,dJ hi,cC,hi]
 simp only[part,Sem.run_bind,zQ hi a,Result.andThen_ok,c,if_true,b,Sem.run_pure];congr 2
 apply dR;simp[gG]
theorem MR{u:TypeId}{cs:List Value}{off:Nat}(a:((P.underlying u).isSome&&(P.info? u).isSome)=true){w:World}(c:zR P u=false){v:Value}(hc:cs[off]? =some v):
  (part u cs.toArray off).run P w=.ok v w:=by
 simp only[bH,jQ]at a;obtain⟨a,i,hi⟩:=a;have b:cs.toArray[off]? =some v:=by simpa using hc
 simp only[part,Sem.run_bind,zQ hi a,Result.andThen_ok,c,gk,if_false,b,Sem.run_pure]
theorem Dl{h:ad}:∀{l m:List (Option Addr×Option Addr)},ww h (l++m)→ww h l∧ww h m
 | [],_,h=>⟨trivial,h⟩
 |(_,_)::_,_,h=>⟨⟨h.1,(Dl h.2).1⟩,(Dl h.2).2⟩
theorem Q5{t:TypeId}{x y:Value}{b:Bool}{l:List (Option Addr×Option Addr)}(f:Y1 P t x y=some (b,l)){w:World}(i:ww w.heap l)(d:Nat):
  (Op.equalIn (d+1) t x y).run P w=.ok b w:=by
 unfold Y1 at f;split at f
 ·rename_i k0 k a k' c hu
  cases hk:Oy k' k with
  |false=>rw[hk]at f;cases f
  |true=>
   rw[hk]at f;have:=Ey hk;subst this;cases f;exact run_equalIn_int w d t _ _ _ _ hu
 ·rename_i a c hu
  cases f;exact run_equalIn_bool w d t _ _ hu
 ·rename_i a c hu
  cases f;exact run_equalIn_string w d t _ _ hu
 ·rename_i e a c hu
  cases hz:cg (cC P e) 0 with
  |true=>rw[hz]at f;cases f
  |false=>
   rw[hz]at f;cases f;have g:cC P e≠0:=fun e=>by rw[e]at hz;cases hz
   simp only[Op.equalIn,Sem.run_bind,aM hu,Result.andThen_ok];cases a with
   |none=>cases c<;>rfl
   |some a=>cases c with
    |none=>rfl
    |some c=>
     obtain⟨j,h2⟩:=i.1 a c rfl rfl;simp only[Sem.run_bind,De hz,Result.andThen_ok,ne_eq,g,not_false_eq_true,if_true,AF j h2];rfl
 ·cases f
theorem J0{rec:TypeId→List Value→List Value→Option (Bool×List (Option Addr×Option Addr))}{d:Nat}{xs ys:List Value}{w:World}
  (g:∀t us vs b l,rec t us vs=some (b,l)→ww w.heap l→(Op.equalIn (d+1) t (.agg us.toArray) (.agg vs.toArray)).run P w=.ok b w):
  ∀(fs:List Field) (b:Bool) (l:List (Option Addr×Option Addr)),aaR P rec xs ys fs=some (b,l)→ww w.heap l→(Op.eqFields (d+1) xs.toArray ys.toArray fs).run P w=.ok b w
 | [],b,l,he,_=>by cases he;rfl
 |f::fs,b,l,he,hp=>by
  unfold aaR at he;split at he
  ·cases he
  ·rename_i hn
   cases hi:((P.underlying f.type).isSome&&(P.info? f.type).isSome)with
   |false=>rw[hi]at he;cases he
   |true=>
    rw[hi]at he;simp only[cond_true]at he;split at he
    ·rename_i b1 l1 c m e1 e2
     cases he;obtain⟨e,n⟩:=Dl hp;have a:=J0 g fs c m e2 n;have j:∃u v,(part f.type xs.toArray f.offset).run P w=.ok u w∧(part f.type ys.toArray f.offset).run P w=.ok v w∧(Op.equalIn (d+1) f.type u v).run P w=.ok b1 w:=by
      cases ha:zR P f.type with
      |true=>
       rw[ha]at e1;exact⟨_,_,Qz hi ha,Qz hi ha,g _ _ _ _ _ e1 e⟩
      |false=>
       rw[ha]at e1;simp only[cond_false]at e1;split at e1
       ·rename_i x y hx hy
        exact⟨x,y,MR hi ha hx,MR hi ha hy,Q5 e1 e d⟩
       ·cases e1
     obtain⟨u,v,o,k,i⟩:=j;simp only[Op.eqFields,ne_eq,hn,not_false_eq_true,if_true,Sem.run_bind,o,k,i,Result.andThen_ok];cases b1
     ·rfl
     ·exact a
    ·cases he
theorem DE{w:World}:∀(m:Nat) (t:TypeId) (xs ys:List Value) (b:Bool) (l:List (Option Addr×Option Addr)),Y2 P m t xs ys=some (b,l)→ww w.heap l→
  ∀d,(Op.equalIn (d+m+1) t (.agg xs.toArray) (.agg ys.toArray)).run P w=.ok b w
 |0,_,_,_,_,_,he,_,_=>by cases he
 |m+1,t,xs,ys,b,l,he,hp,d=>by
  unfold Y2 at he;split at he
  ·rename_i fs hu
   cases hs:P.stoodInHeld t with
   |true=>rw[hs]at he;cases he
   |false=>
    rw[hs]at he;have a:P.fieldsOf t=fs:=by simp[Program.fieldsOf,hu]
    rw[run_equalIn_struct w _ t _ _ (by rw[a];exact hu) hs,a];exact J0 (d:=d+m) (fun t e vs b l c h2=>DE m t e vs b l c h2 d) fs.toList b l he hp
  ·cases he
theorem Ns{neg b:Bool}{K:RK}{h:ad}{l:List (Option Addr×Option Addr)}(a:adC neg b K h l):∃S,K (.bool (bif neg then !b else b)) S∧ZT S h∧∀h',ZT S h'→ww h' l:=by
 cases l with
 |nil=>exact⟨none,a,trivial,fun _ _=>trivial⟩
 |cons p l=>exact⟨_,a.2,a.1,fun _ h=>h⟩
theorem SV{f:BinOp}{t:TypeId}{xs ys:Array Value}{x y:Operand}{K:RK}{h:ad}(a:abN P f t xs.toList ys.toList K h):
  ∃v S,K v S∧ZT S h∧∀w:World,ZT S w.heap→(do eqGuard f t x y (.agg xs) (.agg ys);binOp f t (.agg xs) (.agg ys):Sem Value).run P w=.ok v w:=by
 unfold abN at a;cases hg:P.eqGuardType P.depth t with
 |true=>rw[hg]at a;exact a.elim
 |false=>
  rw[hg]at a;simp only[cond_false]at a;split at a
  ·split at a
   ·rename_i b l he
    obtain⟨S,c,h2,e⟩:=Ns a;refine⟨_,S,c,h2,fun w d=>?_⟩
    have:=DE 10 t _ _ b l he (e _ d) 9989;simp only[Array.toArray_toList]at this;simp only[Sem.run_bind,run_eqGuard_agg w _ t x y _ _ hg,Result.andThen_ok,run_eql_struct,this];rfl
   ·exact a.elim
  ·split at a
   ·rename_i b l he
    obtain⟨S,c,h2,e⟩:=Ns a;refine⟨_,S,c,h2,fun w d=>?_⟩
    have:=DE 10 t _ _ b l he (e _ d) 9989;simp only[Array.toArray_toList]at this;simp only[Sem.run_bind,run_eqGuard_agg w _ t x y _ _ hg,Result.andThen_ok,run_neq_struct,this];rfl
   ·exact a.elim
  ·exact a.elim
theorem Wl{a:UnOp}{x:Value}{K:RK}{h:ad}(hv:adm a x K):Yv P (Op.unary a x) K h:=by
 unfold adm at hv;split at hv
 ·exact .of_pure hv fun w=>rfl
 ·exact .of_pure hv fun w=>rfl
 ·exact .of_pure hv fun w=>rfl
 ·exact hv.elim
theorem Kk:∀(l:List UInt8) (s:ByteArray),(l.map fun b=>((b.toNat:Nat):Int)).foldl (fun r n=>r.push (ii n.toNat)) s=⟨s.data++l.toArray⟩
 | [],s=>by simp
 |b::l,s=>by
  simp only[eB,kH];rw[Kk l];congr 1
  have:ii ((b.toNat:Nat):Int).toNat=b:=by simp
  rw[this];apply dR;simp[ByteArray.push]
theorem JM{e:TypeId}(h:Tn P e=true):P.underlying e=some (.int .u8):=by
 unfold Tn at h;split at h
 ·assumption
 ·cases h
theorem Qc{w:World}{a:Addr}{vs:List Value}(b:Row w.heap a vs):(loadCells a vs.length).run P w=.ok vs.toArray w:=by
 have:=run_firstCells_some (P:=P) w 1 vs.length a 0 0 vs (by simp) fun j v hv=>by rw[←yk];exact b j v hv
 simpa[Builtin.firstCells]using this
theorem Qs{f g:TypeId}{x:Value}{K:RK}{h:ad}(hv:Ys P f g x K h):Yv P (convert f g x) K h:=by
 unfold Ys at hv;split at hv
 ·rename_i k k' k'' n h1 h2
  exact .of_pure hv fun w=>by simp only[convert,Sem.run_bind,aM h1,aM h2,Result.andThen_ok];rfl
 ·rename_i s h1 h2
  exact .of_pure hv fun w=>by simp only[convert,Sem.run_bind,aM h1,aM h2,Result.andThen_ok];rfl
 ·rename_i e a n c h1 h2
  cases hu:Tn P e with
  |false=>rw[hu]at hv;exact hv.elim
  |true=>
   rw[hu]at hv;obtain⟨s,t,u⟩:=hv;refine⟨_,_,u,t,fun w m=>?_⟩
   rw[run_convert_bytes_string w f g e a n c h1 (JM hu) h2];obtain⟨p,m⟩:=m;rcases m with o|⟨b,rfl,q⟩
   ·have j:s=ByteArray.empty:=by
     have:s.data.toList= []:=by simpa[eM]using o
     cases s with
     |mk d=>simp at this;subst this;rfl
    cases a with
    |none=>rw[j];rfl
    |some b=>
     have y:n=0:=by rw[←p,o];rfl
     subst y;have:=Qc (P:=P) (w:=w) (a:=b) (vs:= []) fun i v hv=>by simp at hv
     rw[run_bytesToString w b 0 c [] (by simpa using this),j];rfl
   ·have:=Qc (P:=P) q
    rw[p]at this;rw[run_bytesToString w b n c (s.data.toList.map fun b=>((b.toNat:Nat):Int)) (by rw[this,tl];rfl),Kk]
    cases s;simp[ByteArray.empty,ByteArray.emptyWithCapacity];try rfl
 ·exact hv.elim
theorem S4{u:TypeId}{cs:Array Value}{off:Nat}{K:RK}{h:ad}(b:∃d,P.underlying u=some d)(hi:∃i,P.info? u=some i)
  (hv:bif zR P u then K (.agg ((cs.toList.drop off).take (cC P u)).toArray) none else(match cs.toList[off]? with|some v=>K v none|none=>False)):Yv P (part u cs off) K h:=by
 obtain⟨i,hi⟩:=hi;cases ha:zR P u with
 |true=>
  rw[ha]at hv;refine .of_pure hv fun w=>?_
  have c:(sizeOf u).run P w=.ok (cC P u) w:=by simp[sizeOf,dJ hi,cC,hi]
  simp only[part,Sem.run_bind,zQ hi b,Result.andThen_ok,ha,if_true,c,Sem.run_pure];congr 2
  apply dR;simp[gG]
 |false=>
  rw[ha]at hv;simp only[cond_false]at hv;cases hc:cs.toList[off]? with
  |none=>rw[hc]at hv;exact hv.elim
  |some v=>
   rw[hc]at hv;refine .of_pure hv fun w=>?_
   have a:cs[off]? =some v:=by simpa using hc
   simp only[part,Sem.run_bind,zQ hi b,Result.andThen_ok,ha,gk,if_false,a,Sem.run_pure]
def Au(P:Program)(v:Option Value)(d y n:Nat):Prop:=
 match v with
 |some x=>∀c w,(Instr.sliceBound x y c).run P w=.ok n w
 |none=>n=d
theorem pT{v:Option Value}{d y:Nat}{K:Nat→Prop}(hv:Zj v d y K):∃n,K n∧Au P v d y n:=by
 unfold Zj at hv;split at hv
 ·exact⟨d,hv,rfl⟩
 ·rename_i k i
  obtain⟨⟨b,e⟩,a⟩:=hv;refine⟨i.toNat,a,fun c w=>?_⟩
  simp[Instr.sliceBound,asIntOf,b,e]
 ·exact hv.elim
theorem tO{c:Bool}{len cap n l:Nat}{lo hi:Option Value}(b:Au P hi len cap n)(a:Au P lo 0 n l)(w:World):
  (Instr.sliceBounds c len cap lo hi none).run P w=.ok (l,n,cap) w:=by
 cases hi with
 |none=>
  cases lo with
  |none=>simp only[Au]at b a;subst b;subst a;simp[Instr.sliceBounds]
  |some lo=>simp only[Au]at b a;subst b;simp[Instr.sliceBounds,a]
 |some hi=>
  cases lo with
  |none=>simp only[Au]at b a;subst a;simp[Instr.sliceBounds,b]
  |some lo=>simp only[Au]at b a;simp[Instr.sliceBounds,b,a]
theorem FT{c:Bool}{len cap n l m:Nat}{lo:Option Value}{hi d:Value}(hm:Au P (some d) 0 cap m)(b:Au P (some hi) 0 m n)(a:Au P lo 0 n l)(w:World):
  (Instr.sliceBounds c len cap lo (some hi) (some d)).run P w=.ok (l,n,m) w:=by
 cases lo with
 |none=>simp only[Au]at hm b a;subst a;simp[Instr.sliceBounds,hm,b]
 |some lo=>simp only[Au]at hm b a;simp[Instr.sliceBounds,hm,b,a]
theorem Da(a:Option Addr)(l m size:Nat):(if m=l then a else a.map (·.add (l*size)))=aY a l m size:=by
 unfold aY;split
 ·rfl
 ·congr 1;funext x;rw[yk]
theorem tR{t:TypeId}{K:Prop}(h:YB P t K):K∧∀w,(sizeOf t).run P w=.ok (cC P t) w:=by
 unfold YB at h;cases hi:P.info? t with
 |none=>rw[hi]at h;exact h.elim
 |some i=>rw[hi]at h;exact⟨h,fun w=>by simp[sizeOf,dJ hi,cC,hi]⟩
theorem Og{t:TypeId}{x:Value}{f:Nat}{K:RK}{h:ad}(hv:SQ P t x f K):Yv P (Instr.field t x f) K h:=by
 unfold SQ at hv;split at hv
 ·rename_i u off cs hf
  obtain⟨j,g,c,d,rfl,rfl⟩:=AX hf;cases hb:((P.underlying g.type).isSome&&(P.info? g.type).isSome)with
  |false=>rw[hb]at hv;exact hv.elim
  |true=>
   rw[hb]at hv;simp only[bH,jQ]at hb;obtain⟨v,S,i,a,b⟩:=S4 (cs:=cs) (off:=g.offset) (h:=h) hb.1 hb.2 hv;refine⟨v,S,i,a,fun w e=>?_⟩
   have:=b w e;simp only[Instr.field,Sem.run_bind,aM c,Result.andThen_ok,d,asAgg,Sem.run_pure,this]
 ·exact hv.elim
theorem F5{t:TypeId}{x i:Value}{K:RK}{h:ad}(hv:Dk P t x i K):Yv P (Instr.indexAt t x i) K h:=by
 unfold Dk at hv;split at hv
 ·rename_i n e a k i hu
  obtain⟨⟨⟨d,g⟩,c⟩,f⟩:=tR hv;refine .of_pure c fun w=>?_
  simp[Instr.indexAt,asIntOf,aM hu,Instr.sureAddr,d,g,f,yk]
 ·rename_i e b len cap k i hu
  obtain⟨⟨⟨d,g⟩,a,rfl,c⟩,f⟩:=tR hv;refine .of_pure c fun w=>?_
  simp[Instr.indexAt,asIntOf,aM hu,d,g,f,yk]
 ·exact hv.elim
theorem Of{t:TypeId}{x i:Value}{K:RK}{h:ad}(hv:SP P t x i K):Yv P (Instr.index t x i) K h:=by
 unfold SP at hv;split at hv
 ·rename_i s k i hu
  obtain⟨b,d,c,a⟩:=hv;refine .of_pure a fun w=>?_
  simp[Instr.index,asIntOf,aM hu,d,c]
 ·exact hv.elim
theorem Od{t:TypeId}{x:Value}{lo hi d:Option Value}{K:RK}{h:ad}(hv:SN P t x lo hi d K):Yv P (Instr.sliceAt t x lo hi d) K h:=by
 unfold SN at hv;split at hv
 ·rename_i s hu
  cases d with
  |some _=>exact hv.elim
  |none=>
   obtain⟨n,hv,c⟩:=pT (P:=P) hv;obtain⟨l,hv,b⟩:=pT (P:=P) hv;refine .of_pure hv fun w=>?_
   simp[Instr.sliceAt,Instr.slice,aM hu,tO c b]
 ·rename_i e a len cap hu
  obtain⟨hv,f⟩:=tR hv;cases d with
  |none=>
   obtain⟨n,hv,c⟩:=pT (P:=P) hv;obtain⟨l,hv,b⟩:=pT (P:=P) hv;refine .of_pure hv fun w=>?_
   simp[Instr.sliceAt,Instr.slice,aM hu,tO c b,f,Da]
  |some m=>
   cases hi with
   |none=>exact hv.elim
   |some hi=>
    obtain⟨i,hv,hm⟩:=pT (P:=P) hv;obtain⟨n,hv,c⟩:=pT (P:=P) hv;obtain⟨l,hv,b⟩:=pT (P:=P) hv;refine .of_pure hv fun w=>?_
    simp[Instr.sliceAt,Instr.slice,aM hu,FT hm c b,f,Da]
 ·rename_i n e a hu
  obtain⟨hv,f⟩:=tR hv;cases d with
  |some _=>exact hv.elim
  |none=>
   obtain⟨m,hv,c⟩:=pT (P:=P) hv;obtain⟨l,hv,b⟩:=pT (P:=P) hv;refine .of_pure hv fun w=>?_
   have g:(some (if n=l then a else a.add (l*cC P e)))=aY (some a) l n (cC P e):=by
    rw[←Da];split<;>rfl
   simp[Instr.sliceAt,aM hu,Instr.sureAddr,tO c b,f,g]
 ·exact hv.elim
def sM(d:TypeDesc)(c:CK):Prop:=(∃i,d=.int i∧c=.int i)∨(d=.string∧c=.str)∨(d=.bool∧c=.bool)
theorem AP{t:TypeId}{c:CK}{e:TypeId}(h:QL P t=some (c,e)):∃k d,P.underlying t=some (.map k e)∧P.underlying k=some d∧sM d c:=by
 unfold QL at h;split at h
 ·rename_i k e' hu
  split at h
  ·rename_i i hk
   simp only[bQ.injEq,sZ.injEq]at h;obtain⟨rfl,rfl⟩:=h;exact⟨k,_,hu,hk,.inl ⟨i,rfl,rfl⟩⟩
  ·rename_i hk
   simp only[bQ.injEq,sZ.injEq]at h;obtain⟨rfl,rfl⟩:=h;exact⟨k,_,hu,hk,.inr (.inl ⟨rfl,rfl⟩)⟩
  ·rename_i hk
   simp only[bQ.injEq,sZ.injEq]at h;obtain⟨rfl,rfl⟩:=h;exact⟨k,_,hu,hk,.inr (.inr ⟨rfl,rfl⟩)⟩
  ·cases h
 ·cases h
theorem G3{d:TypeDesc}{c:CK}(hd:sM d c)(x y:c.den):Instr.sameNow d (c.enc x) (c.enc y)=some (j1 (c.enc x) (c.enc y)):=by
 rcases hd with⟨i,rfl,rfl⟩|⟨rfl,rfl⟩|⟨rfl,rfl⟩
 ·simp[Instr.sameNow,CK.enc,j1]
 ·simp[Instr.sameNow,CK.enc,j1]
 ·simp[Instr.sameNow,CK.enc,j1]
theorem Hk{d:TypeDesc}{c:CK}(hd:sM d c)(x:c.den):∀(es:List MapEntry) (i:Nat),JK c es→
  ∃r,Instr.findNow d (c.enc x) es i=some r∧r.map (·.2)=Q3 (c.enc x) es
 | [],i,_=>⟨none,rfl,rfl⟩
 |e::es,i,h=>by
  obtain⟨y,g⟩:=h e (by simp);have a:=G3 hd x y;rw[←g]at a;simp only[Instr.findNow,Q3];cases hb:j1 (c.enc x) e.key with
  |true=>rw[a,hb];exact⟨some (i,e.val),rfl,rfl⟩
  |false=>rw[a,hb];exact Hk hd x es (i+1) fun f b=>h f (by simp[b])
theorem Rd{a:Bool}{k:TypeId}{d:TypeDesc}{c:CK}(hd:sM d c)(b:P.underlying k=some d)(v:Value)(n:Nat)(w:World):(Instr.checkKey a (n+1) k v).run P w=.ok () w:=by
 unfold Instr.checkKey;simp only[Sem.run_bind,aM b,Result.andThen_ok];rcases hd with⟨i,rfl,rfl⟩|⟨rfl,rfl⟩|⟨rfl,rfl⟩<;>rfl
theorem zv{k:TypeId}{d:TypeDesc}{c:CK}(hd:sM d c)(b:P.underlying k=some d)(x:c.den){es:List MapEntry}(h:JK c es)(w:World):
  ∃r,(Instr.findKey k (c.enc x) es).run P w=.ok r w∧Instr.findNow d (c.enc x) es 0=some r∧r.map (·.2)=Q3 (c.enc x) es:=by
 obtain⟨r,a,hm⟩:=Hk hd x es 0 h;refine⟨r,?_,a,hm⟩;simp only[Instr.findKey,Sem.run_bind,aM b,Result.andThen_ok,a,Sem.run_pure]
theorem pe{w:World}{r:Nat}{es:Array MapEntry}{a:Nat}(h:w.heap[r]? =some (.map es a)):(getObj r).run P w=.ok (.map es a) w:=by
 simp only[getObj,Sem.run,h]
theorem qG{a:Bool}{k:TypeId}{d:TypeDesc}{c:CK}(hd:sM d c)(b:P.underlying k=some d)(v:Value)(w:World):(Instr.checkKey a 10000 k v).run P w=.ok () w:=
 Rd hd b v 9999 w
theorem Tc{t:TypeId}{c:CK}{e k:TypeId}{d:TypeDesc}(n:P.underlying t=some (.map k e))(f:P.underlying k=some d)(hd:sM d c){m:Option Nat}{x:c.den}{z v:Value}{b ok:Bool}{w:World}
  (o:(zeroValue e).run P w=.ok z w)(hm:T4 c z w.heap m (c.enc x) v b):
  (Instr.lookup t (.map m) (c.enc x) ok).run P w=.ok (bif ok then .tuple #[v,.bool b]else v) w:=by
 cases m with
 |none=>
  obtain⟨rfl,rfl⟩:=hm;simp only[Instr.lookup,Sem.run_bind,aM n,Result.andThen_ok,Sem.run_pure,qG hd f];obtain⟨r,j,h2,a⟩:=zv (P:=P) hd f x (es:= []) (fun _ h=>by cases h) w
  simp only[Instr.findNow,bQ.injEq]at h2;subst h2;simp[j,o]
 |some r=>
  obtain⟨es,i,p,g,hv⟩:=hm;simp only[Instr.lookup,Sem.run_bind,aM n,Result.andThen_ok,pe p,Sem.run_pure,qG hd f];obtain⟨r,j,h2,a⟩:=zv (P:=P) hd f x g w;simp only[j,Result.andThen_ok];cases r with
  |none=>
   simp only[Option.map_none]at a;rw[←a]at hv;obtain⟨rfl,rfl⟩:=hv;simp[o]
  |some r=>
   simp only[jd]at a;rw[←a]at hv;obtain⟨rfl,rfl⟩:=hv;cases ok<;>rfl
theorem gn{e:TypeId}{z:Value}(h:Cn P e=some z)(w:World):(zeroValue e).run P w=.ok z w:=by
 unfold Cn at h;cases hi:P.info? e with
 |none=>rw[hi]at h;cases h
 |some i=>rw[hi]at h;simp only at h;simp[zeroValue,dJ hi,h]
theorem Lv{t:TypeId}{x k:Value}{ok:Bool}{K:RK}{h:ad}(hv:Oe P t x k ok K h):Yv P (Instr.lookup t x k ok) K h:=by
 unfold Oe at hv;split at hv
 ·rename_i c e m hc
  obtain⟨n,d,a,i,hd⟩:=AP hc;obtain⟨j,rfl,hv⟩:=CK.dec_sound hv;split at hv
  ·rename_i ek z hek hz
   obtain⟨y,b,hm,g⟩:=hv;exact⟨_,_,g,hm,fun w f=>Tc a i hd (gn hz w) f⟩
  ·exact hv.elim
 ·exact hv.elim
theorem SO{t:TypeId}{x:Value}{ats:Array TypeId}{ty:TypeId}{K:RK}{h:ad}(a:ats[0]? =some t) (hv:abJ P t x K h):Yv P (Builtin.len_ ats ty #[x]) K h:=by
 unfold abJ at hv;split at hv
 ·rename_i s hu
  exact .of_pure hv fun w=>by simp[Builtin.len_,a,aM hu,goInt]
 ·rename_i n e _ hu
  exact .of_pure hv fun w=>by simp[Builtin.len_,a,aM hu,goInt]
 ·rename_i e b n c hu
  exact .of_pure hv fun w=>by simp[Builtin.len_,a,aM hu,goInt]
 ·rename_i k e m hu
  obtain⟨n,hm,g⟩:=hv;refine⟨_,_,g,hm,fun w f=>?_⟩
  cases m with
  |none=>
   have:n=0:=f;subst this;simp[Builtin.len_,a,aM hu,goInt]
  |some r=>
   obtain⟨es,d,i,rfl⟩:=f;simp[Builtin.len_,a,aM hu,goInt,pe i]
 ·exact hv.elim
theorem SS{t:TypeId}{x:Value}{ats:Array TypeId}{ty:TypeId}{K:RK}{h:ad}(a:ats[0]? =some t) (hv:abK P t x K):Yv P (Builtin.cap_ ats ty #[x]) K h:=by
 unfold abK at hv;split at hv
 ·rename_i e b n c hu
  exact .of_pure hv fun w=>by simp[Builtin.cap_,a,aM hu,goInt]
 ·exact hv.elim
theorem Eo{c:Bool}{k:IntKind}:∀{vs:List Value} {a:Int} {f:Value→Prop},Ou c k a vs f→∃v,f v∧∀w,(vs.foldlM (bif c then Builtin.max2 else Builtin.min2) (Value.int k a):Sem Value).run P w=.ok v w
 | [],a,f,h=>⟨_,h,fun w=>by simp⟩
 | .int k' b::vs,a,f,h=>by
  simp only[Ou]at h;cases hk:Oy k' k with
  |false=>rw[hk]at h;exact h.elim
  |true=>
   rw[hk]at h;have:=Ey hk;subst this;obtain⟨v,e,d⟩:=Eo h;refine⟨v,e,fun w=>?_⟩
   rw[←d w];cases c<;>simp[List.foldlM_cons,Builtin.max2,Builtin.min2]
theorem Cu{a:Bool}{vs:List Value}{f:Value→Prop}{ats:Array TypeId}{ty:TypeId}(h:Ij a vs f):∃v,f v∧∀w,(bif a then Builtin.max_ ats ty vs.toArray else Builtin.min_ ats ty vs.toArray).run P w=.ok v w:=by
 unfold Ij at h;split at h
 ·obtain⟨v,b,c⟩:=Eo (P:=P) h
  refine⟨v,b,fun w=>?_⟩
  have:=c w;cases a<;>simpa[Builtin.max_,Builtin.min_]using this
 ·exact h.elim
theorem WX{a:Addr}{e:MapEntry}{w:World}(j:a.off=0)(h:T7 w.heap a.block e):(Instr.entry (.pointer (some a))).run P w=.ok (.tuple #[e.key,e.val]) w:=by
 obtain⟨m,c,d,f,g,es,hi,k,hm,o⟩:=h;obtain⟨b,off,i⟩:=a;simp only at j hi;subst j;have n:(getObj b).run P w=.ok (.mapIter (some m) c d f) w:=by simp only[getObj,Sem.run,hi]
 simp[Instr.entry,n,k,pe hm,o]
def Mh:DV→Value→Prop
 | .t,v=>v=.bool true
 | .f,v=>v=.bool false
 | .u,v=>v=undef
 | .x,_=>True
def DecOk(d:zd)(r:cY):Prop:=∀t,vA d t=.x∨∃v,m0 r t=some v∧Mh (vA d t) v
theorem DecOk.at{d:zd}{r:cY}(h:DecOk d r){t:Nat}{v:Value}(hv:m0 r t=some v):Mh (vA d t) v:=by
 rcases h t with e|⟨u,a,b⟩
 ·rw[e];trivial
 ·rw[hv]at a;cases a;exact b
theorem yJ{d:zd}{r:cY}(hd:DecOk d r){o:Operand}{v:Value}(h:eI r o=some v):Mh (EL d o) v:=by
 cases o with
 |tmp t=>exact hd.at h
 |const c=>
  simp[eI]at h;subst h;cases c with
  |bool b=>cases b<;>exact rfl
  |_=>trivial
 |global g=>trivial
 |func f=>trivial
theorem Hd{t:TypeId}(h:uI P t=true):∃d,P.underlying t=some d∧∀m,d≠ .interface m:=by
 unfold uI at h;split at h
 ·cases h
 ·rename_i d hd;exact⟨_,hd,fun m e=>by subst e;simp_all⟩
 ·cases h
theorem Er{t:TypeId}{v:Value}(h:uI P t=true)(w:World):(Instr.makeInterface t v).run P w=.ok (.iface t v) w:=by
 obtain⟨d,hd,a⟩:=Hd h;simp only[Instr.makeInterface,Sem.run_bind,aM hd,Result.andThen_ok];cases d<;>first|exact absurd rfl (a _)|rfl
theorem IK{t u:TypeId}{v:Value}(h:uI P t=true)(w:World):(Instr.typeAssert (.iface t v) u t false).run P w=.ok v w:=by
 obtain⟨d,hd,a⟩:=Hd h;simp only[Instr.typeAssert,Sem.run_bind,aM hd,Result.andThen_ok];cases d<;>first|exact absurd rfl (a _)|(simp[Sem.run_pure])
theorem mY{t:TypeId}{z:List Value}(h:ve P t=some z):∃v,Cn P t=some v∧v.cells.toList=z:=by
 unfold ve at h;cases hz:Cn P t with
 |none=>rw[hz]at h;cases h
 |some v=>rw[hz]at h;simp only[bQ.injEq]at h;exact⟨v,rfl,h⟩
theorem vM{t:TypeId}{v:Value}(h:Cn P t=some v):∃i,P.info? t=some i∧i.zero=some v:=by
 unfold Cn at h;cases hi:P.info? t with
 |none=>rw[hi]at h;cases h
 |some i=>rw[hi]at h;exact⟨i,rfl,h⟩
theorem Y6{A B:List Value}{x:Value}{m:Nat}(h:A.length=m):(A++x::B).take (m+1)=A++ [x]:=by
 subst h;rw[List.take_append,bo (by omega),show A.length+1-A.length=1 by omega];rfl
theorem Y8{A B:List Value}{x:Value}{m n:Nat}(h:A.length=m):(A++x::B).drop (m+1+n)=B.drop n:=by
 subst h;rw[List.drop_append,List.drop_eq_nil_of_le (by omega),show A.length+1+n-A.length=n+1 by omega];rfl
theorem Q0(off:Nat):∀(xs:List Value) (k:Nat) (arr:Array Value),off+k+xs.length≤arr.size→
  (xs.zipIdx k).foldl (fun cs (c,j)=>cs.setIfInBounds (off+j) c) arr=(Qv arr.toList (off+k) xs).toArray
 | [],k,arr,_=>by simp[Qv]
 |x::xs,k,arr,h=>by
  simp only[al]at h;simp only[List.zipIdx_cons,kH];rw[Q0 off xs (k+1) _ (by simp;omega)];have hm:off+k<arr.toList.length:=by simp;omega
  have b:arr.toList.set (off+k) x=arr.toList.take (off+k)++x::arr.toList.drop (off+k+1):=by
   rw[List.set_eq_take_append_cons_drop,if_pos hm]
  have a:(arr.toList.take (off+k)).length=off+k:=by simp;omega
  congr 1
  unfold Qv;rw[Array.toList_setIfInBounds,b,←mz,Y6 a,Y8 a];simp only[List.append_assoc,cJ,List.nil_append,al,List.drop_drop];rw[show off+k+1+xs.length=off+k+(xs.length+1) by omega]
theorem xo{a:Nat→Option (Nat×Nat)}:∀(parts:List (Nat×Value)) (cs cs':List Value),Hl a cs parts=some cs'→Instr.fill a cs.toArray parts=some cs'.toArray
 | [],cs,cs',h=>by simp only[Hl,bQ.injEq]at h;subst h;rfl
 |(i,v)::rest,cs,cs',h=>by
  simp only[Hl]at h;cases hp:a i with
  |none=>rw[hp]at h;cases h
  |some os=>
   obtain⟨off,size⟩:=os;rw[hp]at h;simp only at h;cases hb:(cg v.cells.toList.length size&&BZ (off+v.cells.toList.length) cs.length)with
   |false=>rw[hb]at h;cases h
   |true=>
    rw[hb]at h;simp only[bH]at hb;have b:=bG hb.1;have h2:=lK hb.2;have c:=xo rest _ _ h;have e:v.cells.size=size:=by simpa using b
    have d:off+v.cells.size≤cs.length:=by simpa using h2
    have f:Array.foldl (fun cs x=>cs.setIfInBounds (off+x.2) x.1) cs.toArray v.cells.zipIdx=(Qv cs off v.cells.toList).toArray:=by
     have:=Q0 off v.cells.toList 0 cs.toArray (by simpa using d);simp only[eN]at this;rw[←this,←Array.foldl_toList];congr 1
     simp[Array.toList_zipIdx]
    simp only[Instr.fill,hp];rw[if_neg (by simp[e];omega)];simp only[f];exact c
theorem r8{N:Nat}{r:cY}{a:Act}(h:Agree N r a):∀{ps:List (Nat×Operand)} {vs:List (Nat×Value)},uH r ps=some vs→ps.map (fun p=>(p.1,a.eval p.2))=vs
 | [],vs,hv=>by simp[uH]at hv;subst hv;rfl
 |(i,o)::ps,vs,hv=>by
  simp only[uH]at hv;cases ho:eI r o with
  |none=>simp[ho]at hv
  |some v=>cases hos:uH r ps with
   |none=>simp[ho,hos]at hv
   |some us=>simp[ho,hos]at hv;subst hv;simp[ph h ho,r8 h hos]
theorem uM{t:TypeId}(h:BO P t=true)(w:World):(sizeOf t).run P w=.ok (cC P t) w:=by
 unfold BO at h;cases hi:P.info? t with
 |none=>rw[hi]at h;cases h
 |some i=>simp[sizeOf,dJ hi,cC,hi]
theorem Js(w:World):∀l:List Field,ET P l=true→(l.mapM fun f:Field=>((do pure (f.offset,←sizeOf f.type)):Sem (Nat×Nat))).run P w=.ok (l.map fun f:Field=>(f.offset,cC P f.type)) w
 | [],_=>rfl
 |f::l,h=>by
  simp only[ET]at h;cases hf:BO P f.type with
  |false=>rw[hf]at h;cases h
  |true=>
   rw[hf]at h;rw[List.mapM_cons];simp only[Sem.run_bind,uM hf,Result.andThen_ok,Sem.run_pure,Js w l h,eB]
theorem ES{t:TypeId}{ps:Array (Nat×Value)}{cs:List Value}(a:O1 P t ps.toList=some cs)(w:World):
  (Instr.build t ps).run P w=.ok (.agg cs.toArray) w:=by
 unfold O1 at a;split at a
 ·rename_i fs z hu d
  obtain⟨v,d,hv⟩:=mY d;cases ha:ET P fs.toList with
  |false=>rw[ha]at a;cases a
  |true=>
   rw[ha]at a;have j:(fs.mapM fun f:Field=>((do pure (f.offset,←sizeOf f.type)):Sem (Nat×Nat))).run P w=.ok (fs.map fun f:Field=>(f.offset,cC P f.type)) w:=by
    rw[Array.mapM_eq_mapM_toList];simp only[Sem.run_map,Js w fs.toList ha,Result.andThen_ok];congr 1
    apply dR;simp
   have g:=xo _ _ _ a;have b:(fun i:Nat=>(fs.map fun f:Field=>(f.offset,cC P f.type))[i]?)=S0 P fs.toList:=by
    funext i;unfold S0;rw[Array.getElem?_map,cd];cases fs[i]?<;>rfl
   have c:v.cells=z.toArray:=by rw[←hv]
   rw[cond_true]at a;rw[←b]at g;simp only[Instr.build,Sem.run_bind,gn d,Result.andThen_ok,aM hu,j,c,g,Sem.run_pure]
 ·rename_i n e z hu d
  obtain⟨v,d,hv⟩:=mY d;cases ha:BO P e with
  |false=>rw[ha]at a;cases a
  |true=>
   rw[ha]at a;have g:=xo _ _ _ a;have c:v.cells=z.toArray:=by rw[←hv]
   simp only[Instr.build,Sem.run_bind,gn d,Result.andThen_ok,aM hu,uM ha,c,g,Sem.run_pure]
 ·cases a
theorem MO{ek:Option (Kind×Kind)}{o:Oper}{r:cY}{K:RK}{h:ad}{N:Nat}{a:Act}(R:Agree N r a)(g:F4 P ek o.op r K h)(d:zd)(hd:DecOk d r):
  ∃v S,K v S∧ZT S h∧Mh (PL d o.op) v∧∀w:World,ZT S w.heap→(execOp a.eval o).run P w=.ok (.value v) w:=by
 have j:∀{x:Operand} {v:Value},eI r x=some v→a.eval x=v:=fun h=>ph R h
 have z:∀{s:Sem Value},Yv P s K h→PL d o.op=.x→(∀w,(execOp a.eval o).run P w=(do pure (Next.value (←s)):Sem Next).run P w)→
   ∃v S,K v S∧ZT S h∧Mh (PL d o.op) v∧∀w:World,ZT S w.heap→(execOp a.eval o).run P w=.ok (.value v) w:=by
  rintro s ⟨v,S,q,C,A⟩ hx H;exact⟨v,S,q,C,by rw[hx];trivial,fun w D=>by rw[H w];exact lR (A w D)⟩
 obtain⟨Q,O,type,rl,G,F⟩:=o;simp only at g z⊢;cases O with
 |move x=>
  simp only[F4]at g;split at g
  ·rename_i v hv
   exact⟨v,none,g,trivial,yJ hd hv,fun w _=>by simp[execOp,j hv]⟩
  ·exact g.elim
 |assign x=>
  simp only[F4]at g;split at g
  ·rename_i v hv
   exact⟨v,none,g,trivial,yJ hd hv,fun w _=>by simp[execOp,j hv]⟩
  ·exact g.elim
 |pick c x y=>
  simp only[F4]at g;split at g
  ·rename_i vc va vb hc hx T
   unfold abf at g;split at g
   ·rename_i cb
    have J:=yJ hd hc;have U:=yJ hd hx;have V:=yJ hd T;have H:∀w,(execOp a.eval ⟨Q,.pick c x y,type,rl,G,F⟩).run P w=.ok (.value (if cb then va else vb)) w:=fun w=>by
     simp[execOp,j hc,j hx,j T,asBool]
    have I:Mh (PL d (.pick c x y)) (if cb then va else vb):=by
     simp only[PL];cases hcd:EL d c with
     |t=>
      rw[hcd]at J;have:cb=true:=by simpa[Mh]using J
      subst this;exact U
     |f=>
      rw[hcd]at J;have:cb=false:=by simpa[Mh]using J
      subst this;exact V
     |u=>trivial
     |x=>trivial
    split at g
    ·rename_i bx by'
     have M:(if cb=true then Value.bool bx else Value.bool by')=.bool (bif cb then bx else by'):=by cases cb<;>rfl
     rw[M]at I;exact⟨_,none,g,trivial,I,fun w _=>by rw[H w,M]⟩
    ·cases cb
     ·exact⟨_,none,g,trivial,I,fun w _=>H w⟩
     ·exact⟨_,none,g,trivial,I,fun w _=>H w⟩
   ·exact g.elim
  ·exact g.elim
 |load t x=>
  simp only[F4]at g;split at g
  ·rename_i v hv
   obtain⟨u,S,q,C,A⟩:=G6 g;exact z ⟨u,some S,q,C,A⟩ rfl fun w=>by simp only[execOp,j hv]
  ·exact g.elim
 |nilCheck x=>
  simp only[F4]at g;split at g
  ·rename_i p hv
   obtain⟨b,rfl,q⟩:=g;exact⟨_,none,q,trivial,trivial,fun w _=>by simp[execOp,j hv]⟩
  ·exact g.elim
 |binOp O t x y yt=>
  simp only[F4]at g;split at g
  ·rename_i v u hv hu
   obtain⟨Z,S,q,C,A⟩:=SV (x:=x) (y:=y) g;refine⟨Z,S,q,C,trivial,fun w D=>?_⟩
   simp only[execOp,j hv,j hu];exact lR (A w D)
  ·rename_i v u hna hv hu
   have go:(∀c d,v=.agg c→u=.agg d→False)∧(v=.nilIface→u=.nilIface→False)∧Yv P (binOp O t v u) K h:=by
    split at g
    ·exact Jz (neg:=false) g
    ·exact Jz (neg:=true) g
    ·exact SU g
   obtain⟨h1,h2,Z,S,q,C,A⟩:=go;refine⟨Z,S,q,C,trivial,fun w D=>?_⟩
   simp only[execOp,j hv,j hu];simp[TD O t x y v u h1 h2 w,A w D]
  ·exact g.elim
 |unOp O t x=>
  simp only[F4]at g;split at g
  ·rename_i v hv
   obtain⟨u,S,q,C,A⟩:=Wl (P:=P) (h:=h) g;refine⟨u,S,q,C,?_,fun w D=>by simp only[execOp,j hv];exact lR (A w D)⟩
   have L:=yJ hd hv;cases O<;>try trivial
   simp only[PL];have B:=A {(default:World)with heap:=h} C;cases hx:EL d x with
   |t=>
    rw[hx]at L;have:v=.bool true:=L;subst this;simp[Op.unary]at B;exact B.symm
   |f=>
    rw[hx]at L;have:v=.bool false:=L;subst this;simp[Op.unary]at B;exact B.symm
   |u=>trivial
   |x=>trivial
  ·exact g.elim
 |convert s t x=>
  simp only[F4]at g;split at g
  ·rename_i v hv
   exact z (Qs g) rfl fun w=>by simp only[execOp,j hv]
  ·exact g.elim
 |extract x i=>
  simp only[F4]at g;split at g
  ·rename_i vs hv
   split at g
   ·rename_i u hu
    have X:vs[i]? =some u:=by simpa using hu
    exact⟨u,none,g,trivial,trivial,fun w _=>by simp[execOp,j hv,Instr.extract,X]⟩
   ·exact g.elim
  ·exact g.elim
 |fieldAddr t x f=>
  simp only[F4]at g;split at g
  ·rename_i b u off hv hf
   exact z (HT hf g) rfl fun w=>by simp only[execOp,j hv]
  ·exact g.elim
 |field t x f=>
  simp only[F4]at g;split at g
  ·rename_i v hv
   exact z (Og g) rfl fun w=>by simp only[execOp,j hv]
  ·exact g.elim
 |indexAddr t x i=>
  simp only[F4]at g;split at g
  ·rename_i v u hv hu
   exact z (F5 g) rfl fun w=>by simp only[execOp,j hv,j hu]
  ·exact g.elim
 |index t x i=>
  simp only[F4]at g;split at g
  ·rename_i v u hv hu
   exact z (Of g) rfl fun w=>by simp only[execOp,j hv,j hu]
  ·exact g.elim
 |slice t x lo hi mx=>
  simp only[F4]at g;split at g
  ·rename_i v l h' m hv hl hh hm
   have W:∀{x:Option Operand} {v:Option Value},MU r x=some v→x.map a.eval=v:=by
    intro x v hx;cases x with
    |none=>simp[MU]at hx;subst hx;rfl
    |some x=>
     simp only[MU]at hx;cases H:eI r x with
     |none=>simp[H]at hx
     |some u=>simp[H]at hx;subst hx;simp[j H]
   exact z (Od g) rfl fun w=>by simp only[execOp,j hv,W hl,W hh,W hm]
  ·exact g.elim
 |lookup t x k ok=>
  simp only[F4]at g;split at g
  ·rename_i v u hv hu
   exact z (Lv g) rfl fun w=>by simp only[execOp,j hv,j hu]
  ·exact g.elim
 |makeInterface t x=>
  simp only[F4]at g;split at g
  ·rename_i v hv
   cases hb:uI P t with
   |false=>rw[hb]at g;exact g.elim
   |true=>
    rw[hb,cond_true]at g;exact⟨_,none,g,trivial,trivial,fun w _=>by simp only[execOp,j hv];exact lR (Er hb w)⟩
  ·exact g.elim
 |typeAssert x u t ok=>
  simp only[F4]at g;split at g
  ·rename_i v hv
   cases ok with
   |true=>exact g.elim
   |false=>
    rw[cond_false]at g;unfold U9 at g;cases hb:uI P t with
    |false=>rw[hb]at g;exact g.elim
    |true=>
     rw[hb,cond_true]at g;split at g
     ·obtain⟨y,rfl,q⟩:=g
      exact⟨_,none,q,trivial,trivial,fun w _=>by simp only[execOp,j hv];exact lR (IK hb w)⟩
     ·exact g.elim
  ·exact g.elim
 |makeFunc fn first cap=>
  simp only[F4]at g;split at g
  ·rename_i vs us hv hu
   have M:=r6 R hv;have e2:=r6 R hu;refine⟨_,none,g,trivial,trivial,fun w _=>?_⟩
   have Y:first.map a.eval=vs.toArray:=by rw[←M];apply dR;simp
   have f2:cap.map a.eval=us.toArray:=by rw[←e2];apply dR;simp
   simp[execOp,Instr.makeFunc,Y,f2]
  ·exact g.elim
 |entry it=>
  simp only[F4]at g;split at g
  ·rename_i b kk vk hv
   obtain⟨h0,e,x,y,hi,q,T,hK⟩:=g;refine⟨_,_,hK,hi,trivial,fun w D=>?_⟩
   simp only[execOp,j hv];refine lR ?_;rw[WX h0 D,q,T]
  ·exact g.elim
 |call c=>
  simp only[F4]at g;have E:∀{b:Builtin} {vs:List Value},c.callee=.builtin b→vg r c.args.toList=some vs→∃cs:Array Bool,∀w,(execOp a.eval ⟨Q,.call c,type,rl,G,F⟩).run P w=
    (builtin b c.argTypes type cs vs.toArray).run P w:=by
   intro b vs hc n;have M:=r6 R n;have Y:c.args.map a.eval=vs.toArray:=by rw[←M];apply dR;simp
   refine⟨c.args.map fun| .const _=>true|_=>false,fun w=>?_⟩
   simp[execOp,resolve,hc,Y,invoke];rfl
  split at g
  ·rename_i v t hc n hat
   obtain⟨cs,E⟩:=E hc n;obtain⟨u,S,q,C,A⟩:=SO (ats:=c.argTypes) (ty:=type) (by rw[←cd,hat];rfl) g;exact⟨u,S,q,C,trivial,fun w D=>by rw[E w];simp only[builtin];exact lR (A w D)⟩
  ·rename_i v t hc n hat
   obtain⟨cs,E⟩:=E hc n;obtain⟨u,S,q,C,A⟩:=SS (h:=h) (ats:=c.argTypes) (ty:=type) (by rw[←cd,hat];rfl) g;exact⟨u,S,q,C,trivial,fun w D=>by rw[E w];simp only[builtin];exact lR (A w D)⟩
  ·rename_i vs hc n
   obtain⟨cs,E⟩:=E hc n;obtain⟨u,q,A⟩:=Cu (P:=P) (ats:=c.argTypes) (ty:=type) g;exact⟨u,none,q,trivial,trivial,fun w _=>by rw[E w];simp only[builtin];exact lR (A w)⟩
  ·rename_i vs hc n
   obtain⟨cs,E⟩:=E hc n;obtain⟨u,q,A⟩:=Cu (P:=P) (ats:=c.argTypes) (ty:=type) g;exact⟨u,none,q,trivial,trivial,fun w _=>by rw[E w];simp only[builtin];exact lR (A w)⟩
  ·exact g.elim
 |build t ps=>
  simp only[F4]at g;split at g
  ·rename_i vs n
   split at g
   ·rename_i cs hcs
    refine⟨_,none,g,trivial,trivial,fun w _=>?_⟩
    have hp:(ps.map fun x=>(x.1,a.eval x.2))=vs.toArray:=by
     rw[←r8 R n];apply dR;simp
    have H:=ES (ps:=vs.toArray) (by simpa using hcs) w;simp only[execOp];rw[show(ps.map fun(i,x)=>(i,a.eval x))=vs.toArray from hp]
    exact lR H
   ·exact g.elim
  ·exact g.elim
 |_=>simp only[F4]at g
end Go.Lift
namespace Go.Lift
open Go
variable {P:Program}
def Rp(P:Program)(s:Sem Next)(K:WK)(w:World):Prop:=
 (∃v a,s.run P w=.ok (.value v) a∧Tame w a∧K v a.heap)∨
 (∃a,s.run P w=.ok .skip a∧Tame w a∧K undef a.heap)∨
 (∃f args,s.run P w=.ok (.enter f args) w∧Calls P f args w fun e a=>Tame w a∧∃v,e=.returned v∧K v a.heap)∨
 (∃l fn tmps assign body,s.run P w=.ok (.round l fn tmps assign body) w∧
  ∀(c:Frame) (cs:List Frame),∃b a,Tame w a∧K (.bool b) a.heap∧Steps P (lone (Frame.round l fn tmps assign body .normal) (c::cs) w) (lone (c.finish (.bool b)) cs a))
def Wv(P:Program)(s:Sem Value)(K:WK)(w:World):Prop:=∃v w',s.run P w=.ok v w'∧Tame w w'∧K v w'.heap
theorem Wv.out{s:Sem Value}{K:WK}{w:World}(h:Wv P s K w):Rp P (do pure (Next.value (←s))) K w:=by
 obtain⟨v,d,c,a,b⟩:=h;exact .inl ⟨v,d,lR c,a,b⟩
def Wu(P:Program)(s:Sem Unit)(K:WK)(w:World):Prop:=∃w',s.run P w=.ok () w'∧Tame w w'∧K undef w'.heap
theorem Wu.out{s:Sem Unit}{K:WK}{w:World}(h:Wu P s K w):Rp P (do s;pure Next.skip) K w:=by
 obtain⟨d,c,a,b⟩:=h;exact .inr (.inl ⟨d,Yc c,a,b⟩)
def mZ(w:World)(h:ad):World:={w with heap:=h}
theorem gb(w:World)(h:ad):Tame w (mZ w h):=⟨rfl,rfl,rfl⟩
theorem nb(e:TypeId)(cs:Array Value)(w:World):(newRow e cs).run P w=.ok (aG w.heap) (mZ w (hnew w.heap cs.toList e)):=by
 simp[newRow,newObj,Sem.run,aG,mZ,hnew,bind,Sem.bind,pure]
theorem Jh(o:Obj)(w:World):(newObj o).run P w=.ok w.heap.size (mZ w (w.heap.push o)):=rfl
theorem LC{h:ad}{a b:Addr}(v:Value)(c:a≠b):aO (hset h a v) b=aO h b:=
 World.cell?_setCell_other {(default:World)with heap:=h} a b v c
theorem HS{h:ad}{a:Addr}{u:Value}(v:Value)(hc:aO h a=some u):aO (hset h a v) a=some v:=
 World.cell?_setCell_same {(default:World)with heap:=h} a v hc
theorem OB{h:ad}{a b:Addr}(v:Value):Ip (hset h a v) b=Ip h b:=
 World.frozen?_setCell {(default:World)with heap:=h} a b v
theorem Wr.hset{h:ad}{a b:Addr}(v:Value)(f:Wr h b):Wr (hset h a v) b:=by
 obtain⟨⟨u,c⟩,d⟩:=f;refine⟨?_,by rw[OB];exact d⟩
 by_cases e:a=b
 ·subst e;exact⟨v,HS v c⟩
 ·exact⟨u,by rw[LC v e];exact c⟩
theorem SH{w:World}{a:Addr}{v:Value}(hv:∀cs,v≠ .agg cs)(c:∀cs,v≠ .tuple cs)(f:Wr w.heap a):(store a v).run P w=.ok () (mZ w (hset w.heap a v)):=by
 obtain⟨⟨u,e⟩,g⟩:=f;have b:w.cell? a=some u:=e;have d:w.frozen? a=false:=g;cases v<;>first|exact absurd rfl (hv _)|exact absurd rfl (c _)|(simp only[store,Sem.run,b,d];rfl)
theorem Ot{v:Value}{vs:List Value}(h:cH (v::vs)=true):(∀cs,v≠ .agg cs)∧(∀cs,v≠ .tuple cs)∧cH vs=true:=by
 simp only[cH,bH]at h;refine⟨fun cs e=>?_,fun cs e=>?_,h.2⟩<;>(subst e;exact absurd h.1 (by simp))
theorem ws{a:Addr}:∀(vs:List Value) (i:Nat) (w:World),cH vs=true→(∀j,j<vs.length→Wr w.heap (adr a (i+j)))→
  (storeCells a vs i).run P w=.ok () (mZ w (jj w.heap a i vs))
 | [],i,w,_,_=>rfl
 |v::vs,i,w,b,hw=>by
  obtain⟨f,e,b⟩:=Ot b;have c:=hw 0 (by simp);simp only[eN]at c;have d:a.add i=adr a i:=(yk a i).symm;simp only[storeCells,d,Sem.run_bind,SH f e c,Result.andThen_ok];rw[ws vs (i+1) (mZ w (hset w.heap (adr a i) v)) b fun j g=>?_]
  ·rfl
  ·have:=hw (j+1) (by simp only[al];omega)
   rw[show i+1+j=i+(j+1) by omega]
   exact this.hset v
theorem Ng{a:Addr}(m:Nat):∀(vs:List Value) (i:Nat) (h:ad),jj h (adr a m) i vs=jj h a (m+i) vs
 | [],_,_=>rfl
 |v::vs,i,h=>by
  simp only[jj];rw[Ng m vs (i+1),EW];rfl
theorem NU{t:TypeId}{a v:Value}{K:WK}{w:World}(c:Sn P t a v K w.heap):Wu P (Instr.storeAt t a v) K w:=by
 unfold Sn at c;split at c
 ·rename_i a
  cases hb:(cg v.cells.toList.length (cC P t)&&cH v.cells.toList)with
  |false=>rw[hb]at c;exact c.elim
  |true=>
   rw[hb]at c;simp only[bH]at hb;have n:=bG hb.1;obtain⟨c,o⟩:=tR c;have i:v.cells.size=cC P t:=by simpa using n
   have m:(∀j,j<v.cells.toList.length→Wr w.heap (adr a (0+j)))→(Instr.storeAt t (.pointer (some a)) v).run P w=.ok () (mZ w (jj w.heap a 0 v.cells.toList)):=by
    intro d;have:=ws (P:=P) v.cells.toList 0 w hb.2 d;simp[Instr.storeAt,Instr.sureAddr,storeVar,o,i,this]
   split at c
   ·rename_i u hu
    obtain⟨d,k⟩:=c;refine⟨_,m (fun j f=>?_),gb _ _,?_⟩
    ·rw[hu]at f;simp only[al,List.length_nil]at f
     obtain rfl:j=0:=by omega
     exact d
    ·rw[hu];exact k
   ·obtain⟨d,k⟩:=c
    refine⟨_,m (fun j f=>?_),gb _ _,k⟩
    rcases d with e|⟨b,g,d⟩
    ·rw[e]at f;cases f
    ·cases g;exact d j f
 ·exact c.elim
theorem mI(z:Array Value)(n:Nat):(Builtin.zeroCells z n).toList=eO n z.toList:=by
 have key:∀n,(List.range (n*z.size)).map (fun i=>z[i%z.size]!)=(iP n z.toList).flatten:=by
  intro n;induction n with
  |zero=>simp
  |succ n ih=>
   rw[Nat.succ_mul,List.range_add,List.map_append,ih,List.replicate_succ',List.flatten_append];congr 1
   simp only[tl,List.flatten_cons,List.flatten_nil,List.append_nil];apply List.ext_getElem
   ·simp
   ·intro i a h2
    simp only[List.length_map,List.length_range]at a;simp[Nat.mod_eq_of_lt a,a,Nat.add_mod]
 simpa[Builtin.zeroCells,eO]using key n
theorem eK{t e:TypeId}(h:Ae P t=some e):P.underlying t=some (.slice e):=by
 unfold Ae at h;split at h
 ·rename_i e' hu;simp only[bQ.injEq]at h;subst h;exact hu
 ·cases h
theorem UJ{z:Value}{n:Nat}:((Array.range (n*z.cells.size)).map (z.cells[· %z.cells.size]!))=(eO n z.cells.toList).toArray:=by
 have:=mI z.cells n;unfold Builtin.zeroCells at this;apply dR;rw[this]
theorem Gr{t e:TypeId}{n:Nat}{ps:Array (Nat×Value)}{z cs:List Value}(k:Ae P t=some e)(q:ve P e=some z)(s:n*cC P e≤16777216)(g:z.length=cC P e)
  (p:Hl (fun i=>some (i*cC P e,cC P e)) (eO n z) ps.toList=some cs)(w:World):
  (Instr.buildSlice t n ps).run P w=.ok (.slice (some (aG w.heap)) n n) (mZ w (hnew w.heap cs e)):=by
 obtain⟨v,hv,c⟩:=mY q;obtain⟨i,hi,m⟩:=vM hv;have o:(sizeOf e).run P w=.ok (cC P e) w:=by simp[sizeOf,dJ hi,cC,hi]
 have d:v.cells.size=cC P e:=by rw[←g,←c];simp
 have j:=xo _ _ _ p;have a:((Array.range (n*cC P e)).map (fun i=>(if n*cC P e=0 then #[]else v.cells)[i%(if n*cC P e=0 then #[]else v.cells).size]!))=(eO n z).toArray:=by
  by_cases b:n*cC P e=0
  ·have:(eO n z).length=0:=by simp[eO,g,b]
   rw[aw.1 this];simp[b]
  ·simp only[if_neg b]
   rw[←d,UJ,c]
 have f:¬(n*cC P e>2^24):=by omega
 simp only[Instr.buildSlice,Sem.run_bind,aM (eK k),Result.andThen_ok,o,if_neg f];by_cases b:n*cC P e=0
 ·simp only[if_pos b]at a
  simp only[if_pos b,Sem.run_bind,Sem.run_pure,Result.andThen_ok,a,j,nb]
 ·simp only[if_neg b]at a
  simp only[if_neg b,Sem.run_bind,Sem.run_pure,Result.andThen_ok,gn hv,a,j,nb]
theorem Wc{h:ad}{a:Addr}{vs:List Value}(b:Row h a vs):∀j v,vs[j]? =some v→aO h (a.add j)=some v:=fun j v hv=>by
 rw[←yk];exact b j v hv
theorem BH{size n cap len:Nat}{b:Option Addr}{vs:List Value}{w:World}(d:SRow w.heap b (n*size) vs):(Builtin.firstCells size n (.slice b len cap)).run P w=.ok vs.toArray w:=by
 obtain⟨c,a⟩:=d;cases b with
 |none=>
  rcases a with rfl|⟨_,h,_⟩
  ·simp[Builtin.firstCells]
  ·cases h
 |some b=>
  refine run_firstCells_some w size n b len cap vs c fun j v hv=>?_
  rcases a with rfl|⟨_,h,a⟩
  ·cases hv
  ·cases h;exact Wc a j v hv
theorem IV{a:Addr}{m:Nat}{xs:List Value}{w:World}(f:cH xs=true)(c:wn w.heap (some a) m xs):
  (storeCells (a.add m) xs).run P w=.ok () (mZ w (jj w.heap a m xs)):=by
 rcases c with rfl|⟨b,e,c⟩
 ·rfl
 ·cases e
  have:=ws (P:=P) (a:=adr a m) xs 0 w f fun j d=>by rw[EW,aQ];exact c j d
  rw[←yk,this,Ng,eN]
set_option maxHeartbeats 1000000 in
theorem Ku{t e u ty:TypeId}{b:Option Addr}{sl f c:Nat}{xs:List Value}{x:Value}{K:WK}{w:World}(D:Ae P t=some e)(k:(∃y,P.underlying u=some (.slice y))∨P.underlying u=some .string)
  (g:∀w,(Builtin.lenOf x).run P w=.ok c w)(hx:∀w':World,w'.heap=w.heap→(Builtin.firstCells (cC P e) c x).run P w'=.ok xs.toArray w')
  (hi:∃i,P.info? e=some i)
  (h:Zq P e b sl f c xs K w.heap):Wv P (Builtin.append_ #[t,u] ty #[.slice b sl f,x]) K w:=by
 obtain⟨i,hi⟩:=hi;have j:cC P e=i.size:=by simp[cC,hi]
 have E:vl P e=i.bytes:=by simp[vl,hi]
 by_cases hc:sl+c≤f
 ·obtain⟨L,M,H⟩:=h.1 hc
  refine⟨_,_,?_,gb w (hO w.heap b (sl*cC P e) xs),H⟩;cases b with
  |none=>
   have d:=hx w rfl;rw[j]at d;rcases k with⟨y,hd⟩|hd<;>(simp[Builtin.append_,aM (eK D),aM hd,sizeOf,dJ hi,g,hc,d];rfl)
  |some a=>
   have p:=IV (P:=P) M L;have d:=hx w rfl;rw[j]at p d;rcases k with⟨y,hd⟩|hd<;>(simp[Builtin.append_,aM (eK D),aM hd,sizeOf,dJ hi,g,hc,d,p,hO,j])
 ·obtain⟨s,z,J,N,F,G,H⟩:=h.2 (by omega)
  obtain⟨v,hv,A⟩:=mY N;obtain⟨O,q,I⟩:=vM hv;rw[hi]at q;cases q;rw[E]at F G;have o:¬i.bytes=0:=by omega
  have n:¬(281474976710656<Builtin.nextslicecap (sl+c) f*i.bytes):=by omega
  have d:=hx w.drew rfl;have m:(Builtin.firstCells (cC P e) sl (.slice b sl f)).run P w.drew=.ok s.toArray w.drew:=BH J;rw[j]at d m;have C:sl+c≤(Question.appendCap (sl+c) f e).cut (w.tape w.drawn (.appendCap (sl+c) f e)):=um _ _;refine⟨_,mZ w.drew (hnew w.heap (s++xs++eO ((Question.appendCap (sl+c) f e).cut (w.tape w.drawn (.appendCap (sl+c) f e))-(sl+c)) z) e),?_,⟨rfl,rfl,rfl⟩,H _ C⟩
  have B:(Builtin.zeroCells v.cells ((Question.appendCap (sl+c) f e).cut (w.tape w.drawn (.appendCap (sl+c) f e))-(sl+c)))=(eO ((Question.appendCap (sl+c) f e).cut (w.tape w.drawn (.appendCap (sl+c) f e))-(sl+c)) z).toArray:=by
   apply dR;rw[mI,A]
  rcases k with⟨y,hd⟩|hd<;>(simp[Builtin.append_,aM (eK D),aM hd,sizeOf,dJ hi,g,hc,o,n,Question.forced,d,m,gn hv,nb,B,aG];rfl)
theorem JN{t:TypeId}{K:Prop}(h:YB P t K):∃i,P.info? t=some i:=by
 unfold YB at h;cases hi:P.info? t with
 |none=>rw[hi]at h;exact h.elim
 |some i=>exact⟨i,rfl⟩
theorem Ez{t:TypeId}(h:cC P t≠0):∃i,P.info? t=some i:=by
 cases hi:P.info? t with
 |none=>exact absurd (by simp[cC,hi]) h
 |some i=>exact⟨i,rfl⟩
theorem Hp{size n:Nat}{x:ByteArray}{w:World}:(Builtin.firstCells size n (.string x)).run P w=.ok ((eM x).take n).toArray w:=by
 simp only[Builtin.firstCells,Sem.run_pure];congr 1
 apply dR;simp[eM,nK,gG,←List.map_take]
theorem Cr{t u ty:TypeId}{s x:Value}{K:WK}{w:World}(c:(∃e',P.underlying u=some (.slice e'))∨P.underlying u=some .string)(h:H9 P t s x K w.heap):
  Wv P (Builtin.append_ #[t,u] ty #[s,x]) K w:=by
 unfold H9 at h;split at h
 ·rename_i e b sl sc a xl xc ht
  have hi:=JN h;obtain⟨⟨xs,d,g⟩,k⟩:=tR h;exact Ku ht c (fun w=>rfl) (fun i f=>BH (by rw[f];exact d)) hi g
 ·rename_i e b sl sc x ht
  cases hb:cg (cC P e) 1 with
  |false=>rw[hb]at h;exact h.elim
  |true=>
   rw[hb]at h;have j:=bG hb;have m:(eM x).length=x.size:=by simp[eM]
   refine Ku ht c (fun w=>rfl) (fun i _=>?_) (Ez (by omega)) h
   rw[Hp,bo (by omega)]
 ·exact h.elim
theorem FL{n:Int}(b:0≤n)(a:n≤9223372036854775807):IntKind.i64.wrap n=n:=IntWalk.i64_in n ⟨by omega,a⟩
theorem TY{t e u ty:TypeId}{b:Option Addr}{sl d:Nat}{k0 k:IntKind}{l:Int}{z:List Value}{K:WK}{w:World}(A:Ae P t=some e)(x:P.underlying u=some (.int k0))
  (U:ve P e=some z)(J:z.length=cC P e)(Y:0≤l)(L:l*vl P e≤2^48)(h2:l≤9223372036854775807)(h3:((sl+l.toNat:Nat):Int)≤9223372036854775807)
  (h:Zq P e b sl d l.toNat (eO l.toNat z) K w.heap):Wv P (Builtin.append_ #[t,u] ty #[.slice b sl d,.int k l]) K w:=by
 obtain⟨v,hv,C⟩:=mY U;obtain⟨i,hi,V⟩:=vM hv;have j:cC P e=i.size:=by simp[cC,hi]
 have H:vl P e=i.bytes:=by simp[vl,hi]
 have y:IntKind.wrap .i64 l=l:=FL Y h2;have g:¬l<0:=by omega
 rw[H]at L;have c:¬(281474976710656:Int)<l*i.bytes:=by omega
 have f:∀S:World,(asInt (.int k l)).run P S=.ok l S:=fun S=>rfl
 have E:(Builtin.zeroCells v.cells l.toNat)=(eO l.toNat z).toArray:=by apply dR;rw[mI,C]
 have s:l.toNat*i.size=0→eO l.toNat z= []:=fun N=>by
  have G:(eO l.toNat z).length=l.toNat*i.size:=by rw[←j,←J];unfold eO;simp
  exact aw.1 (by rw[G,N])
 by_cases hc:sl+l.toNat≤d
 ·obtain⟨M,L,I⟩:=h.1 hc
  refine⟨_,_,?_,gb w (hO w.heap b (sl*cC P e) (eO l.toNat z)),I⟩;cases b with
  |none=>
   by_cases m:l.toNat*i.size=0
   ·simp[Builtin.append_,aM (eK A),aM x,sizeOf,dJ hi,f,y,g,c,hc,m];rfl
   ·simp[Builtin.append_,aM (eK A),aM x,sizeOf,dJ hi,f,y,g,c,hc,gn hv];rfl
  |some a=>
   have n:=IV (P:=P) L M;rw[j]at n;by_cases m:l.toNat*i.size=0
   ·rw[s m]at n
    simp[Builtin.append_,aM (eK A),aM x,sizeOf,dJ hi,f,y,g,c,hc,n,hO,j,m,s m]
   ·simp[Builtin.append_,aM (eK A),aM x,sizeOf,dJ hi,f,y,g,c,hc,n,hO,j,m,gn hv,E]
 ·obtain⟨B,Z,W,F,Q,R,I⟩:=h.2 (by omega)
  rw[U]at F;cases F;rw[H]at Q R;have T:¬i.bytes=0:=by omega
  have o:¬(281474976710656<Builtin.nextslicecap (sl+l.toNat) d*i.bytes):=by omega
  have X:¬(9223372036854775807:Int)<((sl:Int)+(l.toNat:Int)):=by omega
  have p:¬(9223372036854775807:Int)<((sl:Int)+max l 0):=by omega
  have q:(Builtin.firstCells (cC P e) sl (.slice b sl d)).run P w.drew=.ok B.toArray w.drew:=BH W;rw[j]at q;have O:sl+l.toNat≤(Question.appendCap (sl+l.toNat) d e).cut (w.tape w.drawn (.appendCap (sl+l.toNat) d e)):=um _ _;refine⟨_,mZ w.drew (hnew w.heap (B++eO l.toNat z++eO ((Question.appendCap (sl+l.toNat) d e).cut (w.tape w.drawn (.appendCap (sl+l.toNat) d e))-(sl+l.toNat)) z) e),?_,⟨rfl,rfl,rfl⟩,I _ O⟩
  have D:(Builtin.zeroCells v.cells ((Question.appendCap (sl+l.toNat) d e).cut (w.tape w.drawn (.appendCap (sl+l.toNat) d e))-(sl+l.toNat)))=(eO ((Question.appendCap (sl+l.toNat) d e).cut (w.tape w.drawn (.appendCap (sl+l.toNat) d e))-(sl+l.toNat)) z).toArray:=by
   apply dR;rw[mI,C]
  by_cases m:l.toNat*i.size=0
  ·rw[s m]at I⊢
   simp[Builtin.append_,aM (eK A),aM x,sizeOf,dJ hi,f,y,g,c,hc,p,o,Question.forced,q,gn hv,nb,D,aG,m];rfl
  ·simp[Builtin.append_,aM (eK A),aM x,sizeOf,dJ hi,f,y,g,c,hc,p,o,Question.forced,q,gn hv,nb,D,aG,m,E];rfl
theorem IG{t u ty:TypeId}{k0:IntKind}{s x:Value}{K:WK}{w:World}(c:P.underlying u=some (.int k0))(h:IH P t s x K w.heap):
  Wv P (Builtin.append_ #[t,u] ty #[s,x]) K w:=by
 unfold IH at h;split at h
 ·rename_i e b sl sc k l ht
  split at h
  ·rename_i z hz
   cases hb:cg z.length (cC P e)with
   |false=>rw[hb]at h;exact h.elim
   |true=>
    rw[hb]at h;obtain⟨⟨g,a,h2,d⟩,f⟩:=h;exact TY ht c hz (bG hb) g a h2 d f
  ·exact h.elim
 ·exact h.elim
theorem nh:∀{a b:List Value},cH a=true→cH b=true→cH (a++b)=true
 | [],_,_,h=>h
 |v::a,b,h,k=>by
  simp only[cH,cJ,bH]at h⊢;exact⟨h.1,nh h.2 k⟩
theorem El{z:List Value}(h:cH z=true):∀n,cH (eO n z)=true
 |0=>rfl
 |n+1=>by
  have:eO (n+1) z=z++eO n z:=by simp[eO,List.replicate_succ]
  rw[this];exact nh h (El h n)
theorem NV{t ty:TypeId}{x:Value}{K:WK}{w:World}(h:Sp P t x K w.heap):Wv P (Builtin.clear_ #[t] ty #[x]) K w:=by
 unfold Sp at h;split at h
 ·rename_i e a n c ht
  split at h
  ·rename_i z hz
   obtain⟨v,hv,d⟩:=mY hz;cases ho:cH z with
   |false=>rw[ho]at h;exact h.elim
   |true=>
    rw[ho]at h;obtain⟨g,i⟩:=h;refine⟨_,_,?_,gb w (hO w.heap a 0 (eO n z)),i⟩;cases a with
    |none=>simp[Builtin.clear_,aM (eK ht)];rfl
    |some a=>
     cases n with
     |zero=>simp[Builtin.clear_,aM (eK ht)];rfl
     |succ n=>
      have b:=IV (P:=P) (El ho (n+1)) g;rw[←yk,Kw]at b;have f:(Builtin.zeroCells v.cells (n+1)).toList=eO (n+1) z:=by rw[mI,d]
      simp[Builtin.clear_,aM (eK ht),gn hv,f,b,hO]
  ·exact h.elim
 ·exact h.elim
theorem Em:∀(xs:List Value) (n:Nat),cH xs=true→cH (xs.take n)=true
 | [],n,_=>by simp[cH]
 |x::xs,0,_=>by simp[cH]
 |x::xs,n+1,h=>by
  simp only[cH,bH,List.take_succ_cons]at h⊢;exact⟨h.1,Em xs n h.2⟩
theorem Lx(x:ByteArray):cH (eM x)=true:=by
 have:∀l:List UInt8,cH (l.map fun b=>.int .u8 (b.toNat:Int))=true:=by
  intro l;induction l with
  |nil=>rfl
  |cons b l ih=>simp[cH,ih]
 exact this _
theorem PS{t u ty:TypeId}{d s:Value}{K:WK}{w:World}(h:XL P t d s K w.heap):Wv P (Builtin.copy_ #[t,u] ty #[d,s]) K w:=by
 unfold XL at h;split at h
 ·rename_i e b dl dc a sl sc ht
  obtain⟨⟨xs,k,n,p,o⟩,j⟩:=tR h;refine⟨_,_,?_,gb w (hO w.heap b 0 xs),o⟩;have g:=BH (P:=P) (len:=sl) (cap:=sc) k;cases b with
  |none=>simp[Builtin.copy_,aM (eK ht),Builtin.lenOf,j,g,goInt];rfl
  |some c=>
   have f:=IV (P:=P) (m:=0) p n;simp only[Addr.add,if_pos]at f;simp[Builtin.copy_,aM (eK ht),Builtin.lenOf,j,g,goInt,f,hO]
 ·rename_i e b dl dc x ht
  cases hb:cg (cC P e) 1 with
  |false=>rw[hb]at h;exact h.elim
  |true=>
   rw[hb]at h;have p:=bG hb;obtain⟨i,hi⟩:=Ez (P:=P) (t:=e) (by omega);have j:(sizeOf e).run P w=.ok (cC P e) w:=by simp[sizeOf,dJ hi,cC,hi]
   obtain⟨n,o⟩:=h;have v:(eM x).length=x.size:=by simp[eM]
   have q:(eM x).take (fc x.size dl)=(eM x).take dl:=by
    by_cases hx:x.size≤dl
    ·rw[show fc x.size dl=x.size from Nat.min_eq_left hx,bo (by omega),bo (by omega)]
    ·rw[show fc x.size dl=dl from Nat.min_eq_right (by omega)]
   have g:(Builtin.firstCells (cC P e) (fc x.size dl) (.string x)).run P w=.ok ((eM x).take dl).toArray w:=by
    rw[Hp,q]
   refine⟨_,_,?_,gb w (hO w.heap b 0 ((eM x).take dl)),o⟩;cases b with
   |none=>simp[Builtin.copy_,aM (eK ht),Builtin.lenOf,j,g,goInt];rfl
   |some c=>
    have f:=IV (P:=P) (m:=0) (Em _ dl (Lx x)) n;simp only[Addr.add,if_pos]at f;simp[Builtin.copy_,aM (eK ht),Builtin.lenOf,j,g,goInt,f,hO]
 ·exact h.elim
theorem Va(k v:Value)(a:Nat):∀(es:List MapEntry),(match es.findIdx? (fun e=>j1 k e.key)with
  |some i=>(es.modify i (fun e=>{e with key:=k,val:=v}),a)
  |none=>(es++ [{key:=k,val:=v,born:=a}],a+1))=SX k v a es
 | []=>rfl
 |e::es=>by
  have b:=Va k v a es;simp only[SX,List.findIdx?_cons];cases hk:j1 k e.key with
  |true=>simp[List.modify]
  |false=>
   simp only[gk,if_false];rw[←b];cases hf:es.findIdx? (fun e=>j1 k e.key)with
   |none=>simp
   |some i=>simp[List.modify]
theorem AW{d:TypeDesc}{c:CK}(hd:sM d c)(x:c.den):∀(es:List MapEntry) (i:Nat),JK c es→
  Instr.findNow d (c.enc x) es i=some (match es.findIdx? (fun e=>j1 (c.enc x) e.key)with
   |some j=>(es[j]?).map fun e=>(i+j,e.val)
   |none=>none)
 | [],i,_=>rfl
 |e::es,i,h=>by
  obtain⟨y,k⟩:=h e (by simp);have b:=G3 hd x y;rw[←k]at b;have g:=AW hd x es (i+1) fun f a=>h f (by simp[a])
  simp only[Instr.findNow,List.findIdx?_cons,b];cases hb:j1 (c.enc x) e.key with
  |true=>simp
  |false=>
   simp only[gk,if_false];rw[g];cases hf:es.findIdx? (fun e=>j1 (c.enc x) e.key)with
   |none=>simp
   |some j=>simp[mz,Nat.add_comm 1 j]
theorem HW{a b:ByteArray}(h:(a==b)=true):a=b:=by
 cases a with|mk a=>cases b with|mk b=>
 have h:(a==b)=true:=h;rw[eq_of_beq h]
theorem Kl(a:ByteArray):(a==a)=true:=by
 cases a with|mk a=>
 exact beq_self_eq_true a
theorem N8{d:TypeDesc}{c:CK}(hd:sM d c)(x y:c.den)(h:j1 (c.enc x) (c.enc y)=true):Instr.sameBits 10000 (c.enc y) (c.enc x)=true:=by
 rcases hd with⟨i,rfl,rfl⟩|⟨rfl,rfl⟩|⟨rfl,rfl⟩
 ·have h:x=y:=eq_of_beq (α:=Int) h
  subst h;have:∀n:Int,(i==i&&n==n)=true:=fun n=>by simp
  exact this x
 ·have h:x=y:=HW h
  subst h;exact Kl x
 ·have h:x=y:=eq_of_beq (α:=Bool) h
  subst h;exact beq_self_eq_true (α:=Bool) x
theorem zl{w:World}{r:Nat}{es:Array MapEntry}{a:Nat}{o:Obj}(h:w.heap[r]? =some (.map es a)):(setObj r o).run P w=.ok () (mZ w (w.heap.setIfInBounds r o)):=by
 simp only[setObj,Sem.run,h];rfl
theorem Tb{t k e:TypeId}{d:TypeDesc}{c:CK}(z:P.underlying t=some (.map k e))(s:P.underlying k=some d)(hd:sM d c){r:Nat}{x:c.den}{v:Value}{w:World}(hm:VN c w.heap r):
  (Instr.mapUpdate t (.map (some r)) (c.enc x) v).run P w=.ok () (mZ w (aaA w.heap r (c.enc x) v)):=by
 obtain⟨es,a,g,b⟩:=hm;obtain⟨q,u,h2,B⟩:=zv (P:=P) hd s x b w;rw[AW hd x es.toList 0 b]at h2;have f:=Va (c.enc x) v a es.toList;have m:aaA w.heap r (c.enc x) v=w.heap.setIfInBounds r (.map (SX (c.enc x) v a es.toList).1.toArray (SX (c.enc x) v a es.toList).2):=by
  simp only[aaA,g]
 rw[m,←f];simp only[Instr.mapUpdate,Sem.run_bind,aM z,Result.andThen_ok,pe g,qG hd s,u];cases hf:es.toList.findIdx? (fun e=>j1 (c.enc x) e.key)with
 |none=>
  rw[hf]at h2;simp only[bQ.injEq]at h2;subst h2;simp only[zl g];congr 4
  apply dR;simp
 |some i=>
  rw[hf]at h2;simp only[bQ.injEq]at h2;obtain⟨hi,o,_⟩:=List.findIdx?_eq_some_iff_getElem.1 hf;have p:es.toList[i]? =some es.toList[i]:=ae hi;rw[p]at h2;simp only[jd,aQ]at h2;subst h2;have j:es[i]? =some es.toList[i]:=by rw[←cd];exact p
  obtain⟨y,A⟩:=b es.toList[i] (List.getElem_mem hi);have n:Instr.sameBits 10000 (es.toList[i]).key (c.enc x)=true:=by
   rw[A]at o⊢;exact N8 hd x y o
  simp only[j,jd,Option.getD_some,Instr.keyThatStays,n,if_true,Sem.run_bind,Sem.run_pure,Result.andThen_ok,zl g];congr 4
  apply dR;simp
theorem Cq{t:TypeId}{m k v:Value}{K:WK}{w:World}(h:H8 P t m k v K w.heap):Wu P (Instr.mapUpdate t m k v) K w:=by
 unfold H8 at h;split at h
 ·rename_i c e m hc
  obtain⟨i,d,a,f,hd⟩:=AP hc;obtain⟨g,rfl,r,rfl,hm,b⟩:=CK.dec_sound h;exact⟨_,Tb a f hd hm,gb _ _,b⟩
 ·exact h.elim
theorem Q6(k:Value):∀(es:List MapEntry),(match es.findIdx? (fun e=>j1 k e.key)with
  |some i=>es.eraseIdx i
  |none=>es)=Q7 k es
 | []=>rfl
 |e::es=>by
  have a:=Q6 k es;simp only[Q7,List.findIdx?_cons];cases hk:j1 k e.key with
  |true=>simp
  |false=>
   simp only[gk,if_false];rw[←a];cases hf:es.findIdx? (fun e=>j1 k e.key)<;>simp
theorem QH{t k e ty:TypeId}{ts:Array TypeId}{d:TypeDesc}{c:CK}(s:ts[0]? =some t) (u:P.underlying t=some (.map k e)) (o:P.underlying k=some d) (hd:sM d c) {r:Nat} {x:c.den} {w:World} (hm:VN c w.heap r):
  (Builtin.delete_ ts ty #[.map (some r),c.enc x]).run P w=.ok (.tuple #[]) (mZ w (Vl w.heap r (c.enc x))):=by
 obtain⟨es,b,j,g⟩:=hm;obtain⟨q,p,h2,y⟩:=zv (P:=P) hd o x g w;rw[AW hd x es.toList 0 g]at h2;have f:=Q6 (c.enc x) es.toList;have m:Vl w.heap r (c.enc x)=w.heap.setIfInBounds r (.map (Q7 (c.enc x) es.toList).toArray b):=by
  simp only[Vl,j]
 rw[m,←f];simp only[Builtin.delete_,s,List.getElem?_toArray,List.getElem?_cons_zero,List.getElem?_cons_succ,Sem.run_bind,aM u,Result.andThen_ok,pe j,qG hd o,p];cases hf:es.toList.findIdx? (fun e=>j1 (c.enc x) e.key)with
 |none=>
  rw[hf]at h2;simp only[bQ.injEq]at h2;subst h2;simp[zl j]
 |some i=>
  rw[hf]at h2;simp only[bQ.injEq]at h2;obtain⟨hi,z,_⟩:=List.findIdx?_eq_some_iff_getElem.1 hf;have v:es.toList[i]? =some es.toList[i]:=ae hi;rw[v]at h2;simp only[jd,aQ]at h2;subst h2;have n:i<es.size:=by simpa using hi
  have a:es.eraseIdxIfInBounds i=(es.toList.eraseIdx i).toArray:=by
   apply dR;simp[Array.eraseIdxIfInBounds,n]
  simp[zl j,a]
theorem IC{t ty:TypeId}{ts:Array TypeId}{m k:Value}{K:WK}{w:World}(b:ts[0]? =some t) (h:IE P t m k K w.heap):Wv P (Builtin.delete_ ts ty #[m,k]) K w:=by
 unfold IE at h;split at h
 ·rename_i c e m hc
  obtain⟨j,d,f,g,hd⟩:=AP hc;obtain⟨i,rfl,h⟩:=CK.dec_sound h;rcases h with⟨rfl,a⟩|⟨r,rfl,hm,a⟩
  ·refine⟨_,w,?_,Tame.refl w,a⟩
   simp[Builtin.delete_,b,aM f,qG hd g]
  ·exact⟨_,_,QH b f g hd hm,gb _ _,a⟩
 ·exact h.elim
theorem Wh{t k e:TypeId}(b:P.underlying t=some (.map k e)){m:Option Nat}{a:Nat}{w:World}(hm:m=none∧a=0∨∃r es,m=some r∧w.heap[r]? =some (.map es a)):
  (Instr.range t (.map m)).run P w=.ok (.pointer (some (aG w.heap))) (mZ w (w.heap.push (.mapIter m a #[] a))):=by
 rcases hm with⟨rfl,rfl⟩|⟨r,es,rfl,c⟩
 ·simp only[Instr.range,Sem.run_bind,aM b,Result.andThen_ok,Sem.run_pure,Jh,aG]
 ·simp only[Instr.range,Sem.run_bind,aM b,Result.andThen_ok,Sem.run_pure,pe c,Jh,aG]
theorem AG{w:World}{i:Nat}{m:Option Nat}{a:Nat}{b:Array Nat}{c:Nat}(h:w.heap[i]? =some (.mapIter m a b c)):(getObj i).run P w=.ok (.mapIter m a b c) w:=by
 simp only[getObj,Sem.run,h]
theorem Qb{w:World}{i:Nat}{m:Option Nat}{a:Nat}{b:Array Nat}{c:Nat}{o:Obj}(h:w.heap[i]? =some (.mapIter m a b c)):(setObj i o).run P w=.ok () (mZ w (w.heap.setIfInBounds i o)):=by
 simp only[setObj,Sem.run,h];rfl
theorem Kh(n:Nat)(a:0<n)(w:World):∃k w',k<n∧(choose (.mapNext n)).run P w=.ok k w'∧Tame w w'∧w'.heap=w.heap:=by
 unfold choose;simp only[Sem.run];by_cases h:(Question.mapNext n).forced=true
 ·exact⟨0,w,a,by rw[if_pos h],Tame.refl w,rfl⟩
 ·refine⟨(Question.mapNext n).cut (w.tape w.drawn (.mapNext n)),{w with drawn:=w.drawn+1},Nat.mod_lt _ a,by rw[if_neg h],⟨rfl,rfl,rfl⟩,rfl⟩
theorem PR{Q:Value}{t:TypeId}{K:WK}{w:World}(h:XK Q K w.heap):Wv P (Instr.next Q false t) K w:=by
 unfold XK at h;split at h
 ·rename_i a
  obtain⟨O,m,j,f,u,hi,h⟩:=h;obtain⟨b,off,N⟩:=a;simp only at O hi h;subst O;rcases h with⟨rfl,S⟩|⟨r,es,A,rfl,M,D,F,H⟩
  ·exact⟨_,w,by simp only[Instr.next,Sem.run_bind,AG hi,Result.andThen_ok,Sem.run_pure],Tame.refl w,S⟩
  ·have v:(!f.isEmpty&& !es.isEmpty&&es.all (fun e=>decide (e.born≥u)))=false:=by
    rcases D with h|h|h<;>simp[h]
   obtain⟨left,n⟩:∃left,left=es.filter fun e=> !f.contains e.born:=⟨_,rfl⟩
   obtain⟨i,q⟩:∃i,i=left.filter (·.born<j):=⟨_,rfl⟩
   obtain⟨z,hnew⟩:∃z,z=left.filter (·.born≥j):=⟨_,rfl⟩
   obtain⟨d,g⟩:∃d:Array (Option MapEntry),d=(if i.isEmpty then #[none]else #[])++(i++z).map some:=⟨_,rfl⟩
   have E:0<d.size:=by
    rw[g];by_cases B:i.isEmpty=true
    ·simp[B];omega
    ·have:i.size≠0:=by simpa using B
     simp[B];omega
   obtain⟨k,G,U,y,R,I⟩:=Kh (P:=P) d.size E w;obtain⟨c,hc⟩:∃c,d[k]? =some c:=⟨d[k],Array.getElem?_eq_getElem U⟩;have J:G.heap[b]? =some (.mapIter (some r) j f u):=by rw[I];exact hi
   have o:(!f.isEmpty&& !es.isEmpty&&es.all fun x=>decide (x.born≥u))=false:=v
   cases c with
   |none=>
    refine⟨.tuple #[.bool false],G,?_,R,?_⟩
    ·simp only[Instr.next,Sem.run_bind,AG hi,Result.andThen_ok,Sem.run_pure,pe M,o,gk,if_false,←n,←q,←hnew,←g,y,hc]
    ·rw[I]
     have s:i.isEmpty=true:=by
      have hm:none∈d:=tM hc;rw[g]at hm;by_cases B:i.isEmpty=true
      ·exact B
      ·simp[B]at hm
     refine F fun e T L=>?_
     cases hs:f.contains e.born with
     |true=>rfl
     |false=>
      have p:e∈i:=by
       rw[q,n];simp only[uq];exact⟨⟨by simpa using T,by rw[hs];rfl⟩,by simpa using L⟩
      rw[Array.isEmpty_iff]at s;rw[s]at p;simp at p
   |some e=>
    have p:e∈es∧f.contains e.born=false:=by
     have hm:some e∈d:=tM hc;have C:e∈left:=by
      rw[g]at hm;rw[Array.mem_append]at hm;rcases hm with hm|hm
      ·split at hm<;>simp at hm
      ·simp only[Array.mem_map,bQ.injEq,exists_eq_right,Array.mem_append]at hm
       rcases hm with hm|hm
       ·rw[q]at hm;exact(uq.1 hm).1
       ·rw[hnew]at hm;exact(uq.1 hm).1
     rw[n]at C;have:=uq.1 C;exact⟨this.1,by simpa using this.2⟩
    refine⟨.tuple #[.bool true,e.key,e.val],mZ G (G.heap.setIfInBounds b (.mapIter (some r) j (f.push e.born) A)),?_,R.trans (gb _ _),?_⟩
    ·simp only[Instr.next,Sem.run_bind,AG hi,Result.andThen_ok,Sem.run_pure,pe M,o,gk,if_false,←n,←q,←hnew,←g,y,hc,Qb J]
    ·rw[I]
     exact H e (by simpa using p.1) p.2
 ·exact h.elim
theorem Lz{t e:TypeId}{z:List Value}{k k':IntKind}{l c:Int}{w:World}(x:Ae P t=some e)(D:ve P e=some z)(b:z.length=cC P e)(C:0≤l)(E:l≤c)(h2:c≤9223372036854775807)(B:vl P e*c≤2^48):
  (Instr.makeSlice t (.int k l) (.int k' c)).run P w=.ok (.slice (some (aG w.heap)) l.toNat c.toNat) (mZ w (hnew w.heap (eO c.toNat z) e)):=by
 obtain⟨v,hv,d⟩:=mY D;obtain⟨i,hi,A⟩:=vM hv;have f:cC P e=i.size:=by simp[cC,hi]
 have o:vl P e=i.bytes:=by simp[vl,hi]
 have n:v.cells.size=i.size:=by rw[←f,←b,←d];simp
 have s:=FL C (by omega);have hc:=FL (show 0≤c by omega) h2
 rw[o]at B;have q:¬(c<0):=by omega
 have y:¬(281474976710656<(i.bytes:Int)*c):=by omega
 have u:¬(l<0):=by omega
 have p:¬(c<l):=by omega
 by_cases a:c.toNat*i.size=0
 ·have m:(eO c.toNat z).length=0:=by simp[eO,b,f,a]
  rw[aw.1 m];simp[Instr.makeSlice,aM (eK x),asInt,asIntOf,dJ hi,s,hc,q,y,u,p,sizeOf,a,nb]
 ·have g:((Array.range (c.toNat*i.size)).map (fun j=>v.cells[j%v.cells.size]!))=(eO c.toNat z).toArray:=by
   rw[←n,UJ,d]
  have key:(newRow e ((Array.range (c.toNat*i.size)).map (fun j=>v.cells[j%v.cells.size]!))).run P w=.ok (aG w.heap) (mZ w (hnew w.heap (eO c.toNat z) e)):=by
   rw[g,nb]
  simp[Instr.makeSlice,aM (eK x),asInt,asIntOf,dJ hi,s,hc,q,y,u,p,sizeOf,a,gn hv];rw[key];rfl
theorem Agree.args{N:Nat}{r:cY}{a:Act}(h:Agree N r a){os:Array Operand}{vs:List Value}(hv:vg r os.toList=some vs):os.map a.eval=vs.toArray:=by
 rw[←r6 h hv];apply dR;simp
theorem HC.out{f:FuncId}{args:List Value}{ks:List Kind}{K:WK}{w:World}(h:HC P f args ks (fun x h'=>K (Jp ks (qE ks x)) h') w.heap):Rp P (callFunc f args.toArray) K w:=by
 rcases h.run w rfl with⟨c,h2⟩|⟨v,d,c,a,x,rfl,b⟩
 ·refine .inr (.inr (.inl ⟨f,args.toArray,c,h2.mono ?_⟩))
  rintro e d ⟨a,x,rfl,b⟩;exact⟨a,_,rfl,b⟩
 ·exact .inl ⟨_,d,c,a,b⟩
theorem Xb{a b e:TypeId}{s:ByteArray}{w:World}(j:P.underlying a=some .string)(hd:P.underlying b=some (.slice e))(g:P.underlying e=some (.int .u8)):
  ∃c,s.size≤c∧(convert a b (.string s)).run P w=.ok (.slice (some (aG w.heap)) s.size c) (mZ w.drew (w.heap.push (.cells (eM s++iP (c-s.size) (Value.int .u8 0)).toArray e (c,c+1)))):=by
 have d:s.size≤grownCap w s.size 0 e:=um _ _;refine⟨_,d,?_⟩;rw[Go.Lib.run_convert_string_bytes w a b e s j hd g];have hc:(Go.Lib.bytesCells w e s).size=grownCap w s.size 0 e:=by
  unfold Go.Lib.bytesCells;rw[Array.size_append,Array.size_map,Array.size_replicate,show s.data.size=s.size from rfl]
  omega
 have f:(eM s++iP (grownCap w s.size 0 e-s.size) (Value.int .u8 0)).toArray=Go.Lib.bytesCells w e s:=by
  unfold Go.Lib.bytesCells eM;apply dR;simp
 rw[f];unfold Go.Lib.bytesWorld World.freeze;rw[if_neg (by omega),hc];unfold World.alloc World.drew mZ;congr 1
 congr 1
 apply Array.ext (by simp);intro i k h2;rw[Array.getElem_modify];simp only[Array.getElem_push];split
 ·rename_i e
  subst e;simp
 ·rename_i e
  have hi:i<w.heap.size:=by simp at h2;omega
  rw[dif_pos hi,dif_pos hi]
theorem FO{o:Oper}{r:cY}{K:WK}{w:World}{N:Nat}{a:Act}(F:Agree N r a)(j:Lm P o r K w.heap):Rp P (execOp a.eval o) K w:=by
 have q:∀{x:Operand} {v:Value},eI r x=some v→a.eval x=v:=fun h=>ph F h
 obtain⟨O,Y,type,rl,E,D⟩:=o;cases Y with
 |alloc t=>
  simp only[Lm]at j;split at j
  ·rename_i z hz
   obtain⟨v,hv,M⟩:=mY hz;have C:(Instr.alloc t true (.tuple #[])).run P w=.ok (.pointer (some (aG w.heap))) (mZ w (hnew w.heap z t)):=by
    simp[Instr.alloc,gn hv,newVar,nb,M]
   exact Wv.out ⟨_,_,C,gb _ _,j⟩
  ·exact j.elim
 |box t x=>
  simp only[Lm]at j;split at j
  ·rename_i v hv
   have C:(Instr.box t v).run P w=.ok (.pointer (some (aG w.heap))) (mZ w (hnew w.heap v.cells.toList t)):=by
    simp[Instr.box,newVar,nb]
   simp only[execOp,q hv];exact Wv.out ⟨_,_,C,gb _ _,j⟩
  ·exact j.elim
 |build t ps=>
  simp only[Lm]at j;split at j
  ·rename_i vs p
   split at j
   ·rename_i cs hcs
    have V:(ps.map fun x=>(x.1,a.eval x.2))=vs.toArray:=by
     rw[←r8 F p];apply dR;simp
    have C:=ES (ps:=vs.toArray) (by simpa using hcs) w;simp only[execOp];rw[show(ps.map fun(i,x)=>(i,a.eval x))=vs.toArray from V]
    exact Wv.out ⟨_,w,C,Tame.refl w,j⟩
   ·exact j.elim
  ·exact j.elim
 |buildSlice t n ps=>
  simp only[Lm]at j;split at j
  ·rename_i e vs G p
   split at j
   ·rename_i z hz
    cases hb:(BZ (n*cC P e) 16777216&&cg z.length (cC P e))with
    |false=>rw[hb]at j;exact j.elim
    |true=>
     rw[hb]at j;simp only[bH]at hb;simp only[cond_true]at j;split at j
     ·rename_i cs hcs
      have V:(ps.map fun x=>(x.1,a.eval x.2))=vs.toArray:=by
       rw[←r8 F p];apply dR;simp
      have C:=Gr (ps:=vs.toArray) G hz (lK hb.1) (bG hb.2) (by simpa using hcs) w;simp only[execOp];rw[show(ps.map fun(i,x)=>(i,a.eval x))=vs.toArray from V]
      exact Wv.out ⟨_,_,C,gb _ _,j⟩
     ·exact j.elim
   ·exact j.elim
  ·exact j.elim
 |store t x y=>
  simp only[Lm]at j;split at j
  ·rename_i b v hb hv
   simp only[execOp,q hb,q hv];exact Wu.out (NU j)
  ·exact j.elim
 |mapUpdate t m k x=>
  simp only[Lm]at j;split at j
  ·rename_i mv kv xv hm B hx
   simp only[execOp,q hm,q B,q hx];exact Wu.out (Cq j)
  ·exact j.elim
 |insert t m k x=>
  simp only[Lm]at j;split at j
  ·rename_i mv kv xv hm B hx
   simp only[execOp,q hm,q B,q hx];exact Wu.out (Cq j)
  ·exact j.elim
 |makeMap t n=>
  simp only[Lm]at j;cases n with
  |none=>exact Wv.out ⟨_,mZ w (w.heap.push (.map #[] 0)),by simp[Instr.makeMap];rfl,gb _ _,j⟩
  |some n=>
   simp only at j;split at j
   ·rename_i k i hn G
    exact Wv.out ⟨_,mZ w (w.heap.push (.map #[] 0)),by simp[Instr.makeMap,q hn,aM G,asInt,asIntOf];rfl,gb _ _,j⟩
   ·exact j.elim
 |makeSlice t l c=>
  simp only[Lm]at j;split at j
  ·rename_i e k l' k' c' G Q hc
   split at j
   ·rename_i z hz
    cases hb:cg z.length (cC P e)with
    |false=>rw[hb]at j;exact j.elim
    |true=>
     rw[hb]at j;obtain⟨⟨X,T,h2,W⟩,j⟩:=j;simp only[execOp,q Q,q hc];exact Wv.out ⟨_,_,Lz G hz (bG hb) X T h2 W,gb _ _,j⟩
   ·exact j.elim
  ·exact j.elim
 |convert s d x=>
  simp only[Lm]at j;split at j
  ·rename_i e v U hd hx
   cases hu:Tn P e with
   |false=>rw[hu]at j;exact j.elim
   |true=>
    rw[hu]at j;obtain⟨c,hc,J⟩:=Xb (w:=w) (s:=v) U hd (JM hu);simp only[execOp,q hx];exact Wv.out ⟨_,_,J,⟨rfl,rfl,rfl⟩,j c hc⟩
  ·exact j.elim
 |range t x=>
  simp only[Lm]at j;split at j
  ·rename_i k e m hu hx
   obtain⟨S,hm,j⟩:=j;simp only[execOp,q hx];exact Wv.out ⟨_,_,Wh hu hm,gb _ _,j⟩
  ·exact j.elim
 |next it isS=>
  cases isS with
  |true=>simp only[Lm]at j
  |false=>
   simp only[Lm]at j;split at j
   ·rename_i v hv
    simp only[execOp,q hv];exact Wv.out (PR j)
   ·exact j.elim
 |call c=>
  simp only[Lm]at j;have L:∀{b:Builtin} {vs:List Value},c.callee=.builtin b→vg r c.args.toList=some vs→∃cs:Array Bool,∀w,(execOp a.eval ⟨O,.call c,type,rl,E,D⟩).run P w=
    (builtin b c.argTypes type cs vs.toArray).run P w:=by
   intro b vs hc p;refine⟨c.args.map fun| .const _=>true|_=>false,fun w=>?_⟩
   simp[execOp,resolve,hc,F.args p,invoke];rfl
  have I:∀{s s':Sem Next},(∀w,s.run P w=s'.run P w)→Rp P s' K w→Rp P s K w:=by
   intro s s' C h;unfold Rp at h⊢;simp only[C];exact h
  split at j
  ·rename_i s x hc p
   split at j
   ·rename_i t u hat
    obtain⟨cs,H⟩:=L hc p;refine I H ?_;have A:c.argTypes= #[t,u]:=by apply dR;rw[hat]
    simp only[builtin,A];split at j
    ·rename_i e' hu;exact Wv.out (Cr (.inl ⟨e',hu⟩) j)
    ·rename_i hu;exact Wv.out (Cr (.inr hu) j)
    ·rename_i k0 hu;exact Wv.out (IG hu j)
    ·exact j.elim
   ·exact j.elim
  ·rename_i x hc p
   split at j
   ·rename_i t hat
    obtain⟨cs,H⟩:=L hc p;refine I H ?_;have A:c.argTypes= #[t]:=by apply dR;rw[hat]
    simp only[builtin,A];exact Wv.out (NV j)
   ·exact j.elim
  ·rename_i s x hc p
   split at j
   ·rename_i t u hat
    obtain⟨cs,H⟩:=L hc p;refine I H ?_;have A:c.argTypes= #[t,u]:=by apply dR;rw[hat]
    simp only[builtin,A];exact Wv.out (PS j)
   ·exact j.elim
  ·rename_i m k hc p
   split at j
   ·rename_i t u hat
    obtain⟨cs,H⟩:=L hc p;refine I H ?_;simp only[builtin];exact Wv.out (IC (by rw[←cd,hat];rfl) j)
   ·exact j.elim
  ·rename_i f args hc p
   unfold aa7 at j;split at j
   ·exact j.elim
   ·rename_i ks hks
    split at j
    ·rename_i f
     refine I (s':=callFunc f args.toArray) (fun w=>?_) j.out
     simp[execOp,resolve,hc,F.args p,Act.eval,Deferred.ofValue,invoke]
    ·rename_i f hf
     split at j
     ·rename_i fv hfv
      rcases j.run with⟨g,first,cap,rfl,R⟩|⟨l,rfl,R⟩
      rotate_left
      ·obtain⟨fn,tmps,assign,body,T,h2⟩:=R.run w rfl
       refine .inr (.inr (.inr ⟨l,fn,tmps,assign,body,?_,fun c cs=>?_⟩))
       ·rw[←T]
        simp[execOp,resolve,hc,F.args p,q hfv,Deferred.ofValue,invoke]
       ·obtain⟨b,Z,G,B,U⟩:=h2 c cs
        refine⟨b,Z,G,?_,U⟩;obtain⟨t,e,B⟩:=wG B;have Q:ks.length=1:=by rw[←xu ks t,←e];rfl
        match ks,Q,t,e,B with
        | [k],_,t,e,B=>rw[←e]at B;exact B
      refine I (s':=callFunc g (first.toList++args++cap.toList).toArray) (fun w=>?_) R.out
      have e:first++args.toArray++cap=(first.toList++args++cap.toList).toArray:=by apply dR;simp
      rw[←e];simp[execOp,resolve,hc,F.args p,q hfv,Deferred.ofValue,invoke]
     ·exact j.elim
  ·exact j.elim
 |_=>simp only[Lm]at j
end Go.Lift
