/- A part of the proof that the named laws of this program answer true, whatever the input. -/
import Derived.Test.YtcpiahjlddmfiaaGreatLift0
import Derived.Laws.Append
import Derived.Laws.Cover3
import Derived.Laws.StructEq
import Derived.Laws.BytesString
import Derived.Lib.ConvBytes
open Array renaming ext'→cD,getElem?_toList→aZ,mem_filter→pa
open Bool renaming and_eq_true→aY,false_eq_true→di
open ByteArray renaming data_extract→oe
open List renaming extract_eq_take_drop→fJ,map_cons→bT,map_map→lJ,take_of_length_le→bh,length_cons→aN,cons_append→cM,replicate→dM,length_eq_zero_iff→co,getElem?_eq_getElem→al
open Nat renaming beq→bD,add_assoc→mo,eq_of_beq_eq_true→aQ,le_of_ble_eq_true→oA,add_zero→df,zero_add→aA,le_add_right→lI,min→dy
open Option renaming some→bC,isSome_iff_exists→f3,map_some→iC
open Prod renaming mk→nU
open UInt8 renaming ofNat→dW
namespace Go.Lift
open Go
def Qw(S:Option (ac→Prop))(h:ac):Prop:=match S with|none=>True|some f=>f h
def Yv(P:Program)(s:Sem Value)(K:RK)(h:ac):Prop:=∃v S,K v S∧Qw S h∧∀w:World,Qw S w.heap→s.run P w=.ok v w
theorem Yv.of_pure{P:Program}{s:Sem Value}{K:RK}{h:ac}{v:Value}(b:K v none)(a:∀w:World,s.run P w=.ok v w):Yv P s K h:=
 ⟨v,none,b,trivial,fun w _=>a w⟩
variable {P:Program}
theorem vV{t:TypeId}{f:Nat}{u:TypeId}{off:Nat}(h:vW P t f=some (u,off)):
  ∃fs g,P.underlying t=some (.struct fs)∧fs[f]? =some g∧g.type=u∧g.offset=off:=by
 unfold vW at h;split at h
 ·rename_i fs hu
  split at h
  ·rename_i g hg
   simp only[bC.injEq,nU.injEq]at h;exact⟨fs,g,hu,by simpa using hg,h.1,h.2⟩
  ·cases h
 ·cases h
theorem xW{t:TypeId}(h:bD (bQ P t) 0=false)(w:World):(sizeOf t).run P w=.ok (bQ P t) w:=by
 unfold bQ at h⊢;cases hi:P.info? t with
 |none=>rw[hi]at h;cases h
 |some i=>simp[sizeOf,cA hi]
theorem Ce{t:TypeId}{f:Nat}{u:TypeId}{off:Nat}{a:Addr}{K:RK}{h:ac}(i:vW P t f=some (u,off))
  (b:bif bD (bQ P u) 0 then False else K (.pointer (some (adr a off))) none):Yv P (Instr.fieldAt t (.pointer (some a)) f) K h:=by
 obtain⟨k,g,j,d,rfl,rfl⟩:=vV i;cases hz:bD (bQ P g.type) 0 with
 |true=>rw[hz]at b;exact b.elim
 |false=>
  rw[hz]at b;refine .of_pure b fun w=>?_
  have c:bQ P g.type≠0:=fun e=>by rw[e]at hz;cases hz
  simp only[Instr.fieldAt,Sem.run_bind,av j,Result.andThen_ok,d,Instr.sureAddr,Sem.run_pure,fieldPlace,xW hz];simp[c,th]
theorem uN{t:TypeId}{i:TypeInfo}(_:P.info? t=some i)(a:∃d,P.underlying t=some d)(w:World):(isAgg t).run P w=.ok (uO P t) w:=by
 obtain⟨d,hd⟩:=a;simp only[isAgg,Sem.run_bind,av hd,Result.andThen_ok];unfold uO;rw[hd];cases d<;>rfl
theorem yX{c:BinOp}{k k':IntKind}{a b:Int}{K:RK}{h:ac}(f:c=.shl∨c=.shr)(hv:JJ c k a b K):Yv P (Op.shift c k a k' b) K h:=by
 rcases f with rfl|rfl
 ·obtain⟨e,d⟩:=hv
  refine .of_pure d fun w=>?_
  simp[Op.shift,Int.not_lt.2 e]
 ·obtain⟨e,d⟩:=hv
  refine .of_pure d fun w=>?_
  simp[Op.shift,Int.not_lt.2 e]
theorem KG{c:BinOp}{k:IntKind}{a b:Int}{K:RK}{h:ac}(hv:SO c k a b K)(f:c≠ .shl∧c≠ .shr):Yv P (binOp c 0 (.int k a) (.int k b)) K h:=by
 cases c<;>simp only[SO]at hv
 case quo=>obtain⟨e,d⟩:=hv;exact .of_pure d fun w=>by simp[binOp,Op.intDiv,e]
 case rem=>obtain⟨e,d⟩:=hv;exact .of_pure d fun w=>by simp[binOp,Op.intDiv,e]
 all_goals exact .of_pure hv fun w=>by simp[binOp,Op.intArith,Op.intBits,Op.intCmp]
theorem DY(c:BinOp)(t:TypeId)(k k':IntKind)(a b:Int):binOp c t (.int k a) (.int k' b)=binOp c 0 (.int k a) (.int k' b):=by
 cases c<;>rfl
theorem JH{c:BinOp}{t:TypeId}{a b:ByteArray}{K:RK}{h:ac}(hv:Su c a b K):Yv P (binOp c t (.string a) (.string b)) K h:=by
 cases c<;>simp only[Su]at hv
 case add=>
  obtain⟨e,d⟩:=hv;refine .of_pure d fun w=>?_
  have:¬(((a.size+b.size:Nat):Int)>IntKind.i64.max):=by
   have:IntKind.i64.max=9223372036854775807:=by decide
   omega
  simp only[binOp,Op.stringOp,if_neg this,Sem.run_pure]
 all_goals exact .of_pure hv fun w=>by simp[binOp,Op.stringOp]
theorem pJ{t:TypeId}{x y:Value}{b:Bool}{w:World}(h:∀d,(Op.equalIn (d+1) t x y).run P w=.ok b w):(Op.equal t x y).run P w=.ok b w:=h 9999
theorem DF{t:TypeId}{e:TypeId}(b:P.underlying t=some (.pointer e))(a:Option Addr)(w:World):(Op.equal t (.pointer a) (.pointer none)).run P w=.ok a.isNone w:=by
 refine pJ fun d=>?_
 simp only[Op.equalIn,Sem.run_bind,av b,Result.andThen_ok];cases a<;>rfl
theorem KW(e:BinOp)(t:TypeId)(x y:Operand)(a b:Value)(h:∀c d,a=.agg c→b=.agg d→False)(hi:a=.nilIface→b=.nilIface→False)(w:World):
  (eqGuard e t x y a b).run P w=.ok () w:=by
 cases e;case eql=>cases a<;>cases b<;>first|rfl|exact(hi rfl rfl).elim|exact(h _ _ rfl rfl).elim
 case neq=>cases a<;>cases b<;>first|rfl|exact(hi rfl rfl).elim|exact(h _ _ rfl rfl).elim
 all_goals rfl
theorem NM(t:TypeId)(x y:Value)(hx:∀k a,x≠ .int k a)(c:∀s,x≠ .string s)(d:∀k a,x≠ .float k a)(hc:∀k a b,x≠ .complex k a b):binOp .eql t x y=(do pure (.bool (←Op.equal t x y))):=by
 cases x<;>first|rfl|exact absurd rfl (hx _ _)|exact absurd rfl (c _)|exact absurd rfl (d _ _)|exact absurd rfl (hc _ _ _)
theorem NL(t:TypeId)(x y:Value)(hx:∀k a,x≠ .int k a)(c:∀s,x≠ .string s)(d:∀k a,x≠ .float k a)(hc:∀k a b,x≠ .complex k a b):binOp .neq t x y=(do pure (.bool (!(←Op.equal t x y)))):=by
 cases x<;>first|rfl|exact absurd rfl (hx _ _)|exact absurd rfl (c _)|exact absurd rfl (d _ _)|exact absurd rfl (hc _ _ _)
theorem pL{t:TypeId}{neg:Bool}{x y:Value}{b:Bool}{w:World}(c:(Op.equal t x y).run P w=.ok b w)
  (hx:∀k a,x≠ .int k a)(d:∀s,x≠ .string s)(e:∀k a,x≠ .float k a)(hc:∀k a b,x≠ .complex k a b):
  (binOp (bif neg then .neq else .eql) t x y).run P w=.ok (.bool (bif neg then !b else b)) w:=by
 cases neg
 ·simp only[cond_false,NM t x y hx d e hc,Sem.run_bind,c,Result.andThen_ok,Sem.run_pure]
 ·simp only[cond_true,NL t x y hx d e hc,Sem.run_bind,c,Result.andThen_ok,Sem.run_pure]
theorem Dh{t:TypeId}{neg:Bool}{x y:Value}{K:RK}{h:ac}(hv:Rc P t neg x y K):
  (∀c d,x=.agg c→y=.agg d→False)∧(x=.nilIface→y=.nilIface→False)∧Yv P (binOp (bif neg then .neq else .eql) t x y) K h:=by
 unfold Rc at hv;split at hv
 ·rename_i e a hu
  refine⟨nofun,nofun,.of_pure hv fun w=>?_⟩
  exact pL (DF hu a w) nofun nofun nofun nofun
 ·rename_i k e a hu
  refine⟨nofun,nofun,.of_pure hv fun w=>?_⟩
  refine pL ?_ nofun nofun nofun nofun;refine pJ fun d=>?_
  simp only[Op.equalIn,Sem.run_bind,av hu,Result.andThen_ok];cases a<;>rfl
 ·rename_i e a _ _ _ _ hu
  refine⟨nofun,nofun,.of_pure hv fun w=>?_⟩
  refine pL ?_ nofun nofun nofun nofun;refine pJ fun d=>?_
  simp only[Op.equalIn,Sem.run_bind,av hu,Result.andThen_ok];cases a<;>rfl
 ·exact hv.elim
theorem vG{w:World}{a b:Addr}(d:f8 w.heap a)(hb:f8 w.heap b):(sameAddr a b).run P w=.ok (a==b) w:=by
 obtain⟨i,k,d,x⟩:=d;obtain⟨f,s,hb,sb⟩:=hb;by_cases c:a.block=b.block
 ·simp[sameAddr,c]
 ·have g:(a==b)=false:=by
   rw[beq_eq_false_iff_ne];intro e;exact c (by rw[e])
  have t:w.shape? a.block=some (k,i.size):=by simp[World.shape?,d]
  have u:w.shape? b.block=some (s,f.size):=by simp[World.shape?,hb]
  have p:∀n,w.frozen? ({block:=a.block,off:=n}:Addr)=false:=fun n=>by simp[World.frozen?,d]
  have j:∀n,w.frozen? ({block:=b.block,off:=n}:Addr)=false:=fun n=>by simp[World.frozen?,hb]
  have v:w.frozen? a=false:=by simp[World.frozen?,d]
  have q:w.frozen? b=false:=by simp[World.frozen?,hb]
  obtain⟨m,hm⟩:∃m,i.size=m+1:=⟨i.size-1,by omega⟩
  obtain⟨n,o⟩:∃n,f.size=n+1:=⟨f.size-1,by omega⟩
  simp[sameAddr,c,noView,viewAt,mayBeOne,stringish,t,u,p,j,v,q,hm,o,g]
theorem FI{t:TypeId}{neg:Bool}{x y:Value}{K:RK}{h:ac}(hv:Ug P t neg x y K h):
  (∀c d,x=.agg c→y=.agg d→False)∧(x=.nilIface→y=.nilIface→False)∧Yv P (binOp (bif neg then .neq else .eql) t x y) K h:=by
 unfold Ug at hv;split at hv
 ·rename_i a b hu
  refine⟨nofun,nofun,.of_pure hv fun w=>?_⟩
  refine pL ?_ nofun nofun nofun nofun;refine pJ fun d=>?_
  simp only[Op.equalIn,Sem.run_bind,av hu,Result.andThen_ok,Sem.run_pure]
 ·rename_i e a b hu
  obtain⟨i,o,j⟩:=hv;refine⟨nofun,nofun,_,_,j,o,fun w k=>?_⟩
  refine pL ?_ nofun nofun nofun nofun;have f:bD (bQ P e) 0=false:=by
   cases hb:bD (bQ P e) 0 with
   |false=>rfl
   |true=>rw[hb]at i;exact i.elim
  have g:bQ P e≠0:=fun e=>by rw[e]at f;cases f
  refine pJ fun d=>?_
  simp only[Op.equalIn,Sem.run_bind,av hu,Result.andThen_ok];cases a with
  |none=>cases b<;>rfl
  |some a=>cases b with
   |none=>rfl
   |some b=>
    obtain⟨n,m⟩:=k a b rfl rfl;simp only[Sem.run_bind,xW f,Result.andThen_ok,ne_eq,g,not_false_eq_true,if_true,vG n m];rfl
 ·exact hv.elim
theorem JZ{e:BinOp}{t:TypeId}{x y:Value}{K:RK}{h:ac}(hv:SF P e t x y K h):
  (∀c d,x=.agg c→y=.agg d→False)∧(x=.nilIface→y=.nilIface→False)∧Yv P (binOp e t x y) K h:=by
 unfold SF at hv;split at hv
 ·rename_i k a k' b
  refine⟨nofun,nofun,?_⟩;rw[DY];split at hv
  ·exact yX (k':=k') (.inl rfl) hv
  ·exact yX (k':=k') (.inr rfl) hv
  ·rename_i h1 h2
   cases hk:GJ k' k with
   |false=>rw[hk]at hv;exact hv.elim
   |true=>rw[hk]at hv;have:=zi hk;subst this;exact KG hv ⟨h1,h2⟩
 ·exact⟨nofun,nofun,JH hv⟩
 ·split at hv
  ·exact FI (neg:=false) hv
  ·exact FI (neg:=true) hv
  ·exact hv.elim
theorem H8{u:TypeId}{cs:List Value}{off:Nat}(a:((P.underlying u).isSome&&(P.info? u).isSome)=true){w:World}(b:uO P u=true):
  (part u cs.toArray off).run P w=.ok (.agg ((cs.drop off).take (bQ P u)).toArray) w:=by
 simp only[aY,f3]at a;obtain⟨a,i,hi⟩:=a;have c:(sizeOf u).run P w=.ok (bQ P u) w:=by simp[sizeOf,cA hi,bQ,hi]
 simp only[part,Sem.run_bind,uN hi a,Result.andThen_ok,b,if_true,c,Sem.run_pure];congr 2
 apply cD;simp[fJ]
theorem Ff{u:TypeId}{cs:List Value}{off:Nat}(a:((P.underlying u).isSome&&(P.info? u).isSome)=true){w:World}(c:uO P u=false){v:Value}(hc:cs[off]? =some v):
  (part u cs.toArray off).run P w=.ok v w:=by
 simp only[aY,f3]at a;obtain⟨a,i,hi⟩:=a;have b:cs.toArray[off]? =some v:=by simpa using hc
 simp only[part,Sem.run_bind,uN hi a,Result.andThen_ok,c,di,if_false,b,Sem.run_pure]
theorem ya{h:ac}:∀{l m:List (Option Addr×Option Addr)},qZ h (l++m)→qZ h l∧qZ h m
 | [],_,h=>⟨trivial,h⟩
 |(_,_)::_,_,h=>⟨⟨h.1,(ya h.2).1⟩,(ya h.2).2⟩
theorem Iy{t:TypeId}{x y:Value}{b:Bool}{l:List (Option Addr×Option Addr)}(f:PH P t x y=some (b,l)){w:World}(m:qZ w.heap l)(d:Nat):
  (Op.equalIn (d+1) t x y).run P w=.ok b w:=by
 unfold PH at f;split at f
 ·rename_i k0 k a k' c hu
  cases hk:GJ k' k with
  |false=>rw[hk]at f;cases f
  |true=>
   rw[hk]at f;have:=zi hk;subst this;cases f;exact run_equalIn_int w d t _ _ _ _ hu
 ·rename_i a c hu
  cases f;exact run_equalIn_bool w d t _ _ hu
 ·rename_i a c hu
  cases f;exact run_equalIn_string w d t _ _ hu
 ·rename_i e a c hu
  cases hz:bD (bQ P e) 0 with
  |true=>rw[hz]at f;cases f
  |false=>
   rw[hz]at f;cases f;have g:bQ P e≠0:=fun e=>by rw[e]at hz;cases hz
   simp only[Op.equalIn,Sem.run_bind,av hu,Result.andThen_ok];cases a with
   |none=>cases c<;>rfl
   |some a=>cases c with
    |none=>rfl
    |some c=>
     obtain⟨j,i⟩:=m.1 a c rfl rfl;simp only[Sem.run_bind,xW hz,Result.andThen_ok,ne_eq,g,not_false_eq_true,if_true,vG j i];rfl
 ·cases f
theorem DG{rec:TypeId→List Value→List Value→Option (Bool×List (Option Addr×Option Addr))}{d:Nat}{xs ys:List Value}{w:World}
  (e:∀t us vs b l,rec t us vs=some (b,l)→qZ w.heap l→(Op.equalIn (d+1) t (.agg us.toArray) (.agg vs.toArray)).run P w=.ok b w):
  ∀(fs:List Field) (b:Bool) (l:List (Option Addr×Option Addr)),RF P rec xs ys fs=some (b,l)→qZ w.heap l→(Op.eqFields (d+1) xs.toArray ys.toArray fs).run P w=.ok b w
 | [],b,l,he,_=>by cases he;rfl
 |f::fs,b,l,he,hp=>by
  unfold RF at he;split at he
  ·cases he
  ·rename_i hn
   cases hi:((P.underlying f.type).isSome&&(P.info? f.type).isSome)with
   |false=>rw[hi]at he;cases he
   |true=>
    rw[hi]at he;simp only[cond_true]at he;split at he
    ·rename_i b1 l1 c m e1 e2
     cases he;obtain⟨g,o⟩:=ya hp;have a:=DG e fs c m e2 o;have k:∃u v,(part f.type xs.toArray f.offset).run P w=.ok u w∧(part f.type ys.toArray f.offset).run P w=.ok v w∧(Op.equalIn (d+1) f.type u v).run P w=.ok b1 w:=by
      cases ha:uO P f.type with
      |true=>
       rw[ha]at e1;exact⟨_,_,H8 hi ha,H8 hi ha,e _ _ _ _ _ e1 g⟩
      |false=>
       rw[ha]at e1;simp only[cond_false]at e1;split at e1
       ·rename_i x y hx hy
        exact⟨x,y,Ff hi ha hx,Ff hi ha hy,Iy e1 g d⟩
       ·cases e1
     obtain⟨u,v,j,n,i⟩:=k;simp only[Op.eqFields,ne_eq,hn,not_false_eq_true,if_true,Sem.run_bind,j,n,i,Result.andThen_ok];cases b1
     ·rfl
     ·exact a
    ·cases he
theorem yo{w:World}:∀(m:Nat) (t:TypeId) (xs ys:List Value) (b:Bool) (l:List (Option Addr×Option Addr)),PI P m t xs ys=some (b,l)→qZ w.heap l→
  ∀d,(Op.equalIn (d+m+1) t (.agg xs.toArray) (.agg ys.toArray)).run P w=.ok b w
 |0,_,_,_,_,_,he,_,_=>by cases he
 |m+1,t,xs,ys,b,l,he,hp,d=>by
  unfold PI at he;split at he
  ·rename_i fs hu
   cases hs:P.stoodInHeld t with
   |true=>rw[hs]at he;cases he
   |false=>
    rw[hs]at he;have a:P.fieldsOf t=fs:=by simp[Program.fieldsOf,hu]
    rw[run_equalIn_struct w _ t _ _ (by rw[a];exact hu) hs,a];exact DG (d:=d+m) (fun t e vs b l f c=>yo m t e vs b l f c d) fs.toList b l he hp
  ·cases he
theorem FJ{neg b:Bool}{K:RK}{h:ac}{l:List (Option Addr×Option Addr)}(a:UM neg b K h l):∃S,K (.bool (bif neg then !b else b)) S∧Qw S h∧∀h',Qw S h'→qZ h' l:=by
 cases l with
 |nil=>exact⟨none,a,trivial,fun _ _=>trivial⟩
 |cons p l=>exact⟨_,a.2,a.1,fun _ h=>h⟩
theorem J0{c:BinOp}{t:TypeId}{xs ys:Array Value}{x y:Operand}{K:RK}{h:ac}(a:SH P c t xs.toList ys.toList K h):
  ∃v S,K v S∧Qw S h∧∀w:World,Qw S w.heap→(do eqGuard c t x y (.agg xs) (.agg ys);binOp c t (.agg xs) (.agg ys):Sem Value).run P w=.ok v w:=by
 unfold SH at a;cases hg:P.eqGuardType P.depth t with
 |true=>rw[hg]at a;exact a.elim
 |false=>
  rw[hg]at a;simp only[cond_false]at a;split at a
  ·split at a
   ·rename_i b l he
    obtain⟨S,f,e,g⟩:=FJ a;refine⟨_,S,f,e,fun w d=>?_⟩
    have:=yo 10 t _ _ b l he (g _ d) 9989;simp only[Array.toArray_toList]at this;simp only[Sem.run_bind,run_eqGuard_agg w _ t x y _ _ hg,Result.andThen_ok,run_eql_struct,this];rfl
   ·exact a.elim
  ·split at a
   ·rename_i b l he
    obtain⟨S,f,e,g⟩:=FJ a;refine⟨_,S,f,e,fun w d=>?_⟩
    have:=yo 10 t _ _ b l he (g _ d) 9989;simp only[Array.toArray_toList]at this;simp only[Sem.run_bind,run_eqGuard_agg w _ t x y _ _ hg,Result.andThen_ok,run_neq_struct,this];rfl
   ·exact a.elim
  ·exact a.elim
theorem M6{a:UnOp}{x:Value}{K:RK}{h:ac}(hv:Ut a x K):Yv P (Op.unary a x) K h:=by
 unfold Ut at hv;split at hv
 ·exact .of_pure hv fun w=>rfl
 ·exact .of_pure hv fun w=>rfl
 ·exact .of_pure hv fun w=>rfl
 ·exact hv.elim
theorem DU:∀(l:List UInt8) (s:ByteArray),(l.map fun b=>((b.toNat:Nat):Int)).foldl (fun r n=>r.push (dW n.toNat)) s=⟨s.data++l.toArray⟩
 | [],s=>by simp
 |b::l,s=>by
  simp only[bT,List.foldl_cons];rw[DU l];congr 1
  have:dW ((b.toNat:Nat):Int).toNat=b:=by simp
  rw[this];apply cD;simp[ByteArray.push]
theorem Dn{e:TypeId}(h:KD P e=true):P.underlying e=some (.int .u8):=by
 unfold KD at h;split at h
 ·assumption
 ·cases h
theorem HQ{w:World}{a:Addr}{vs:List Value}(b:Row w.heap a vs):(loadCells a vs.length).run P w=.ok vs.toArray w:=by
 have:=run_firstCells_some (P:=P) w 1 vs.length a 0 0 vs (by simp) fun j v hv=>by rw[←th];exact b j v hv
 simpa[Builtin.firstCells]using this
theorem HZ{f g:TypeId}{x:Value}{K:RK}{h:ac}(hv:O7 P f g x K h):Yv P (convert f g x) K h:=by
 unfold O7 at hv;split at hv
 ·rename_i k k' k'' n h1 h2
  exact .of_pure hv fun w=>by simp only[convert,Sem.run_bind,av h1,av h2,Result.andThen_ok];rfl
 ·rename_i s h1 h2
  exact .of_pure hv fun w=>by simp only[convert,Sem.run_bind,av h1,av h2,Result.andThen_ok];rfl
 ·rename_i e a n c h1 h2
  cases hu:KD P e with
  |false=>rw[hu]at hv;exact hv.elim
  |true=>
   rw[hu]at hv;obtain⟨s,y,q⟩:=hv;refine⟨_,_,q,y,fun w m=>?_⟩
   rw[run_convert_bytes_string w f g e a n c h1 (Dn hu) h2];obtain⟨o,m⟩:=m;rcases m with p|⟨b,rfl,u⟩
   ·have j:s=ByteArray.empty:=by
     have:s.data.toList= []:=by simpa[bv]using p
     cases s with
     |mk d=>simp at this;subst this;rfl
    cases a with
    |none=>rw[j];rfl
    |some b=>
     have t:n=0:=by rw[←o,p];rfl
     subst t;have:=HQ (P:=P) (w:=w) (a:=b) (vs:= []) fun i v hv=>by simp at hv
     rw[run_bytesToString w b 0 c [] (by simpa using this),j];rfl
   ·have:=HQ (P:=P) u
    rw[o]at this;rw[run_bytesToString w b n c (s.data.toList.map fun b=>((b.toNat:Nat):Int)) (by rw[this,lJ];rfl),DU]
    cases s;simp[ByteArray.empty,ByteArray.emptyWithCapacity];try rfl
 ·exact hv.elim
theorem Kg{u:TypeId}{cs:Array Value}{off:Nat}{K:RK}{h:ac}(b:∃d,P.underlying u=some d)(hi:∃i,P.info? u=some i)
  (hv:bif uO P u then K (.agg ((cs.toList.drop off).take (bQ P u)).toArray) none else(match cs.toList[off]? with|some v=>K v none|none=>False)):Yv P (part u cs off) K h:=by
 obtain⟨i,hi⟩:=hi;cases ha:uO P u with
 |true=>
  rw[ha]at hv;refine .of_pure hv fun w=>?_
  have c:(sizeOf u).run P w=.ok (bQ P u) w:=by simp[sizeOf,cA hi,bQ,hi]
  simp only[part,Sem.run_bind,uN hi b,Result.andThen_ok,ha,if_true,c,Sem.run_pure];congr 2
  apply cD;simp[fJ]
 |false=>
  rw[ha]at hv;simp only[cond_false]at hv;cases hc:cs.toList[off]? with
  |none=>rw[hc]at hv;exact hv.elim
  |some v=>
   rw[hc]at hv;refine .of_pure hv fun w=>?_
   have a:cs[off]? =some v:=by simpa using hc
   simp only[part,Sem.run_bind,uN hi b,Result.andThen_ok,ha,di,if_false,a,Sem.run_pure]
def vo(P:Program)(v:Option Value)(d y n:Nat):Prop:=
 match v with
 |some x=>∀c w,(Instr.sliceBound x y c).run P w=.ok n w
 |none=>n=d
theorem lz{v:Option Value}{d y:Nat}{K:Nat→Prop}(hv:PW v d y K):∃n,K n∧vo P v d y n:=by
 unfold PW at hv;split at hv
 ·exact⟨d,hv,rfl⟩
 ·rename_i k i
  obtain⟨⟨b,e⟩,a⟩:=hv;refine⟨i.toNat,a,fun c w=>?_⟩
  simp[Instr.sliceBound,asIntOf,b,e]
 ·exact hv.elim
theorem oE{c:Bool}{len cap n l:Nat}{lo hi:Option Value}(b:vo P hi len cap n)(a:vo P lo 0 n l)(w:World):
  (Instr.sliceBounds c len cap lo hi none).run P w=.ok (l,n,cap) w:=by
 cases hi with
 |none=>
  cases lo with
  |none=>simp only[vo]at b a;subst b;subst a;simp[Instr.sliceBounds]
  |some lo=>simp only[vo]at b a;subst b;simp[Instr.sliceBounds,a]
 |some hi=>
  cases lo with
  |none=>simp only[vo]at b a;subst a;simp[Instr.sliceBounds,b]
  |some lo=>simp only[vo]at b a;simp[Instr.sliceBounds,b,a]
theorem Ay{c:Bool}{len cap n l m:Nat}{lo:Option Value}{hi d:Value}(hm:vo P (some d) 0 cap m)(b:vo P (some hi) 0 m n)(a:vo P lo 0 n l)(w:World):
  (Instr.sliceBounds c len cap lo (some hi) (some d)).run P w=.ok (l,n,m) w:=by
 cases lo with
 |none=>simp only[vo]at hm b a;subst a;simp[Instr.sliceBounds,hm,b]
 |some lo=>simp only[vo]at hm b a;simp[Instr.sliceBounds,hm,b,a]
theorem xT(a:Option Addr)(l m size:Nat):(if m=l then a else a.map (·.add (l*size)))=aS a l m size:=by
 unfold aS;split
 ·rfl
 ·congr 1;funext x;rw[th]
theorem oG{t:TypeId}{K:Prop}(h:Pg P t K):K∧∀w,(sizeOf t).run P w=.ok (bQ P t) w:=by
 unfold Pg at h;cases hi:P.info? t with
 |none=>rw[hi]at h;exact h.elim
 |some i=>rw[hi]at h;exact⟨h,fun w=>by simp[sizeOf,cA hi,bQ,hi]⟩
theorem Gn{t:TypeId}{x:Value}{f:Nat}{K:RK}{h:ac}(hv:JW P t x f K):Yv P (Instr.field t x f) K h:=by
 unfold JW at hv;split at hv
 ·rename_i u off cs hf
  obtain⟨j,g,e,b,rfl,rfl⟩:=vV hf;cases hb:((P.underlying g.type).isSome&&(P.info? g.type).isSome)with
  |false=>rw[hb]at hv;exact hv.elim
  |true=>
   rw[hb]at hv;simp only[aY,f3]at hb;obtain⟨v,S,a,i,d⟩:=Kg (cs:=cs) (off:=g.offset) (h:=h) hb.1 hb.2 hv;refine⟨v,S,a,i,fun w c=>?_⟩
   have:=d w c;simp only[Instr.field,Sem.run_bind,av e,Result.andThen_ok,b,asAgg,Sem.run_pure,this]
 ·exact hv.elim
theorem AF{t:TypeId}{x i:Value}{K:RK}{h:ac}(hv:x8 P t x i K):Yv P (Instr.indexAt t x i) K h:=by
 unfold x8 at hv;split at hv
 ·rename_i n e a k i hu
  obtain⟨⟨⟨f,g⟩,d⟩,c⟩:=oG hv;refine .of_pure d fun w=>?_
  simp[Instr.indexAt,asIntOf,av hu,Instr.sureAddr,f,g,c,th]
 ·rename_i e b len cap k i hu
  obtain⟨⟨⟨f,g⟩,a,rfl,d⟩,c⟩:=oG hv;refine .of_pure d fun w=>?_
  simp[Instr.indexAt,asIntOf,av hu,f,g,c,th]
 ·exact hv.elim
theorem Gm{t:TypeId}{x i:Value}{K:RK}{h:ac}(hv:JV P t x i K):Yv P (Instr.index t x i) K h:=by
 unfold JV at hv;split at hv
 ·rename_i s k i hu
  obtain⟨b,c,hb,a⟩:=hv;refine .of_pure a fun w=>?_
  simp[Instr.index,asIntOf,av hu,c,hb]
 ·exact hv.elim
theorem Gk{t:TypeId}{x:Value}{lo hi d:Option Value}{K:RK}{h:ac}(hv:JT P t x lo hi d K):Yv P (Instr.sliceAt t x lo hi d) K h:=by
 unfold JT at hv;split at hv
 ·rename_i s hu
  cases d with
  |some _=>exact hv.elim
  |none=>
   obtain⟨n,hv,b⟩:=lz (P:=P) hv;obtain⟨l,hv,c⟩:=lz (P:=P) hv;refine .of_pure hv fun w=>?_
   simp[Instr.sliceAt,Instr.slice,av hu,oE b c]
 ·rename_i e a len cap hu
  obtain⟨hv,f⟩:=oG hv;cases d with
  |none=>
   obtain⟨n,hv,b⟩:=lz (P:=P) hv;obtain⟨l,hv,c⟩:=lz (P:=P) hv;refine .of_pure hv fun w=>?_
   simp[Instr.sliceAt,Instr.slice,av hu,oE b c,f,xT]
  |some m=>
   cases hi with
   |none=>exact hv.elim
   |some hi=>
    obtain⟨i,hv,hm⟩:=lz (P:=P) hv;obtain⟨n,hv,b⟩:=lz (P:=P) hv;obtain⟨l,hv,c⟩:=lz (P:=P) hv;refine .of_pure hv fun w=>?_
    simp[Instr.sliceAt,Instr.slice,av hu,Ay hm b c,f,xT]
 ·rename_i n e a hu
  obtain⟨hv,f⟩:=oG hv;cases d with
  |some _=>exact hv.elim
  |none=>
   obtain⟨m,hv,b⟩:=lz (P:=P) hv;obtain⟨l,hv,c⟩:=lz (P:=P) hv;refine .of_pure hv fun w=>?_
   have g:(some (if n=l then a else a.add (l*bQ P e)))=aS (some a) l n (bQ P e):=by
    rw[←xT];split<;>rfl
   simp[Instr.sliceAt,av hu,Instr.sureAddr,oE b c,f,g]
 ·exact hv.elim
def nO(d:TypeDesc)(c:CK):Prop:=(∃i,d=.int i∧c=.int i)∨(d=.string∧c=.str)∨(d=.bool∧c=.bool)
theorem vP{t:TypeId}{c:CK}{e:TypeId}(h:Ih P t=some (c,e)):∃k d,P.underlying t=some (.map k e)∧P.underlying k=some d∧nO d c:=by
 unfold Ih at h;split at h
 ·rename_i k e' hu
  split at h
  ·rename_i i hk
   simp only[bC.injEq,nU.injEq]at h;obtain⟨rfl,rfl⟩:=h;exact⟨k,_,hu,hk,.inl ⟨i,rfl,rfl⟩⟩
  ·rename_i hk
   simp only[bC.injEq,nU.injEq]at h;obtain⟨rfl,rfl⟩:=h;exact⟨k,_,hu,hk,.inr (.inl ⟨rfl,rfl⟩)⟩
  ·rename_i hk
   simp only[bC.injEq,nU.injEq]at h;obtain⟨rfl,rfl⟩:=h;exact⟨k,_,hu,hk,.inr (.inr ⟨rfl,rfl⟩)⟩
  ·cases h
 ·cases h
theorem Bv{d:TypeDesc}{c:CK}(hd:nO d c)(x y:c.den):Instr.sameNow d (c.enc x) (c.enc y)=some (fo (c.enc x) (c.enc y)):=by
 rcases hd with⟨i,rfl,rfl⟩|⟨rfl,rfl⟩|⟨rfl,rfl⟩
 ·simp[Instr.sameNow,CK.enc,fo]
 ·simp[Instr.sameNow,CK.enc,fo]
 ·simp[Instr.sameNow,CK.enc,fo]
theorem BJ{d:TypeDesc}{c:CK}(hd:nO d c)(x:c.den):∀(es:List MapEntry) (i:Nat),keysOf c es→
  ∃r,Instr.findNow d (c.enc x) es i=some r∧r.map (·.2)=Dx (c.enc x) es
 | [],i,_=>⟨none,rfl,rfl⟩
 |e::es,i,h=>by
  obtain⟨y,g⟩:=h e (by simp);have b:=Bv hd x y;rw[←g]at b;simp only[Instr.findNow,Dx];cases hb:fo (c.enc x) e.key with
  |true=>rw[b,hb];exact⟨some (i,e.val),rfl,rfl⟩
  |false=>rw[b,hb];exact BJ hd x es (i+1) fun f a=>h f (by simp[a])
theorem II{a:Bool}{k:TypeId}{d:TypeDesc}{c:CK}(hd:nO d c)(b:P.underlying k=some d)(v:Value)(n:Nat)(w:World):(Instr.checkKey a (n+1) k v).run P w=.ok () w:=by
 unfold Instr.checkKey;simp only[Sem.run_bind,av b,Result.andThen_ok];rcases hd with⟨i,rfl,rfl⟩|⟨rfl,rfl⟩|⟨rfl,rfl⟩<;>rfl
theorem uy{k:TypeId}{d:TypeDesc}{c:CK}(hd:nO d c)(b:P.underlying k=some d)(x:c.den){es:List MapEntry}(h:keysOf c es)(w:World):
  ∃r,(Instr.findKey k (c.enc x) es).run P w=.ok r w∧Instr.findNow d (c.enc x) es 0=some r∧r.map (·.2)=Dx (c.enc x) es:=by
 obtain⟨r,a,hm⟩:=BJ hd x es 0 h;refine⟨r,?_,a,hm⟩;simp only[Instr.findKey,Sem.run_bind,av b,Result.andThen_ok,a,Sem.run_pure]
theorem kJ{w:World}{r:Nat}{es:Array MapEntry}{a:Nat}(h:w.heap[r]? =some (.map es a)):(getObj r).run P w=.ok (.map es a) w:=by
 simp only[getObj,Sem.run,h]
theorem ma{a:Bool}{k:TypeId}{d:TypeDesc}{c:CK}(hd:nO d c)(b:P.underlying k=some d)(v:Value)(w:World):(Instr.checkKey a 10000 k v).run P w=.ok () w:=
 II hd b v 9999 w
theorem Kr{t:TypeId}{c:CK}{e k:TypeId}{d:TypeDesc}(q:P.underlying t=some (.map k e))(f:P.underlying k=some d)(hd:nO d c){m:Option Nat}{x:c.den}{z v:Value}{b j:Bool}{w:World}
  (p:(zeroValue e).run P w=.ok z w)(hm:j1 c z w.heap m (c.enc x) v b):
  (Instr.lookup t (.map m) (c.enc x) j).run P w=.ok (bif j then .tuple #[v,.bool b]else v) w:=by
 cases m with
 |none=>
  obtain⟨rfl,rfl⟩:=hm;simp only[Instr.lookup,Sem.run_bind,av q,Result.andThen_ok,Sem.run_pure,ma hd f];obtain⟨r,o,i,a⟩:=uy (P:=P) hd f x (es:= []) (fun _ h=>by cases h) w
  simp only[Instr.findNow,bC.injEq]at i;subst i;simp[o,p]
 |some r=>
  obtain⟨es,n,hb,g,hv⟩:=hm;simp only[Instr.lookup,Sem.run_bind,av q,Result.andThen_ok,kJ hb,Sem.run_pure,ma hd f];obtain⟨r,o,i,a⟩:=uy (P:=P) hd f x g w;simp only[o,Result.andThen_ok];cases r with
  |none=>
   simp only[Option.map_none]at a;rw[←a]at hv;obtain⟨rfl,rfl⟩:=hv;simp[p]
  |some r=>
   simp only[iC]at a;rw[←a]at hv;obtain⟨rfl,rfl⟩:=hv;cases j<;>rfl
theorem dZ{e:TypeId}{z:Value}(h:xt P e=some z)(w:World):(zeroValue e).run P w=.ok z w:=by
 unfold xt at h;cases hi:P.info? e with
 |none=>rw[hi]at h;cases h
 |some i=>rw[hi]at h;simp only at h;simp[zeroValue,cA hi,h]
theorem EG{t:TypeId}{x k:Value}{a:Bool}{K:RK}{h:ac}(hv:Gl P t x k a K h):Yv P (Instr.lookup t x k a) K h:=by
 unfold Gl at hv;split at hv
 ·rename_i c e m hc
  obtain⟨n,d,j,f,hd⟩:=vP hc;obtain⟨o,rfl,hv⟩:=CK.dec_sound hv;split at hv
  ·rename_i ek z hek hz
   obtain⟨y,b,hm,g⟩:=hv;exact⟨_,_,g,hm,fun w i=>Kr j f hd (dZ hz w) i⟩
  ·exact hv.elim
 ·exact hv.elim
theorem Bx{w:World}{b cap s q:Nat}{a:Array Value}{c t:Bool}(h:w.heap[b]? =some (.chan cap a c s q t)):(getObj b).run P w=.ok (.chan cap a c s q t) w:=by
 simp only[getObj,Sem.run,h]
theorem JU{t:TypeId}{x:Value}{ats:Array TypeId}{ty:TypeId}{K:RK}{h:ac}(a:ats[0]? =some t) (hv:SD P t x K h):Yv P (Builtin.len_ ats ty #[x]) K h:=by
 unfold SD at hv;split at hv
 ·rename_i s hu
  exact .of_pure hv fun w=>by simp[Builtin.len_,a,av hu,goInt]
 ·rename_i n e _ hu
  exact .of_pure hv fun w=>by simp[Builtin.len_,a,av hu,goInt]
 ·rename_i e b n c hu
  exact .of_pure hv fun w=>by simp[Builtin.len_,a,av hu,goInt]
 ·rename_i k e m hu
  obtain⟨n,hm,f⟩:=hv;refine⟨_,_,f,hm,fun w d=>?_⟩
  cases m with
  |none=>
   have:n=0:=d;subst this;simp[Builtin.len_,a,av hu,goInt]
  |some r=>
   obtain⟨es,g,hb,rfl⟩:=d;simp[Builtin.len_,a,av hu,goInt,kJ hb]
 ·rename_i k e m hu
  obtain⟨n,hm,f⟩:=hv;refine⟨_,_,f,hm,fun w d=>?_⟩
  cases m with
  |none=>
   have:n=0:=d;subst this;simp[Builtin.len_,a,av hu,goInt]
  |some r=>
   obtain⟨cap,i,j,s,q,hb,rfl⟩:=d;simp[Builtin.len_,a,av hu,goInt,Bx hb]
 ·exact hv.elim
theorem JY{t:TypeId}{x:Value}{ats:Array TypeId}{ty:TypeId}{K:RK}{h:ac}(a:ats[0]? =some t) (hv:SE P t x K h):Yv P (Builtin.cap_ ats ty #[x]) K h:=by
 unfold SE at hv;split at hv
 ·rename_i e b n c hu
  exact .of_pure hv fun w=>by simp[Builtin.cap_,a,av hu,goInt]
 ·rename_i k e m hu
  obtain⟨n,hm,g⟩:=hv;refine⟨_,_,g,hm,fun w d=>?_⟩
  cases m with
  |none=>
   have:n=0:=d;subst this;simp[Builtin.cap_,a,av hu,goInt]
  |some r=>
   obtain⟨cap,f,i,s,q,hb,rfl⟩:=d;simp[Builtin.cap_,a,av hu,goInt,Bx hb]
 ·exact hv.elim
theorem za{c:Bool}{k:IntKind}:∀{vs:List Value} {a:Int} {f:Value→Prop},GD c k a vs f→∃v,f v∧∀w,(vs.foldlM (bif c then Builtin.max2 else Builtin.min2) (Value.int k a):Sem Value).run P w=.ok v w
 | [],a,f,h=>⟨_,h,fun w=>by simp⟩
 | .int k' b::vs,a,f,h=>by
  simp only[GD]at h;cases hk:GJ k' k with
  |false=>rw[hk]at h;exact h.elim
  |true=>
   rw[hk]at h;have:=zi hk;subst this;obtain⟨v,e,d⟩:=za h;refine⟨v,e,fun w=>?_⟩
   rw[←d w];cases c<;>simp[List.foldlM_cons,Builtin.max2,Builtin.min2]
theorem xD{a:Bool}{vs:List Value}{f:Value→Prop}{ats:Array TypeId}{ty:TypeId}(h:Cx a vs f):∃v,f v∧∀w,(bif a then Builtin.max_ ats ty vs.toArray else Builtin.min_ ats ty vs.toArray).run P w=.ok v w:=by
 unfold Cx at h;split at h
 ·obtain⟨v,c,b⟩:=za (P:=P) h
  refine⟨v,c,fun w=>?_⟩
  have:=b w;cases a<;>simpa[Builtin.max_,Builtin.min_]using this
 ·exact h.elim
theorem NB{a:Addr}{e:MapEntry}{w:World}(i:a.off=0)(h:D5 w.heap a.block e):(Instr.entry (.pointer (some a))).run P w=.ok (.tuple #[e.key,e.val]) w:=by
 obtain⟨m,c,d,last,f,es,hi,hb,hm,j⟩:=h;obtain⟨b,off,g⟩:=a;simp only at i hi;subst i;have k:(getObj b).run P w=.ok (.mapIter (some m) c d last) w:=by simp only[getObj,Sem.run,hi]
 simp[Instr.entry,k,hb,kJ hm,j]
def EX:DV→Value→Prop
 | .t,v=>v=.bool true
 | .f,v=>v=.bool false
 | .u,v=>v=undef
 | .x,_=>True
def DecOk(d:uh)(r:ce):Prop:=∀t,qs d t=.x∨∃v,jp r t=some v∧EX (qs d t) v
theorem DecOk.at{d:uh}{r:ce}(h:DecOk d r){t:Nat}{v:Value}(hv:jp r t=some v):EX (qs d t) v:=by
 rcases h t with e|⟨u,a,b⟩
 ·rw[e];trivial
 ·rw[hv]at a;cases a;exact b
theorem tP{d:uh}{r:ce}(hd:DecOk d r){o:Operand}{v:Value}(h:cR r o=some v):EX (zr d o) v:=by
 cases o with
 |tmp t=>exact hd.at h
 |const c=>
  simp[cR]at h;subst h;cases c with
  |bool b=>cases b<;>exact rfl
  |_=>trivial
 |global g=>trivial
 |func f=>trivial
theorem BE{t:TypeId}(h:px P t=true):∃d,P.underlying t=some d∧∀m,d≠ .interface m:=by
 unfold px at h;split at h
 ·cases h
 ·rename_i d hd;exact⟨_,hd,fun m e=>by subst e;simp_all⟩
 ·cases h
theorem zh{t:TypeId}{v:Value}(h:px P t=true)(w:World):(Instr.makeInterface t v).run P w=.ok (.iface t v) w:=by
 obtain⟨d,hd,a⟩:=BE h;simp only[Instr.makeInterface,Sem.run_bind,av hd,Result.andThen_ok];cases d<;>first|exact absurd rfl (a _)|rfl
theorem CT{t u:TypeId}{v:Value}(h:px P t=true)(w:World):(Instr.typeAssert (.iface t v) u t false).run P w=.ok v w:=by
 obtain⟨d,hd,a⟩:=BE h;simp only[Instr.typeAssert,Sem.run_bind,av hd,Result.andThen_ok];cases d<;>first|exact absurd rfl (a _)|(simp[Sem.run_pure])
theorem jm{t:TypeId}{z:List Value}(h:pZ P t=some z):∃v,xt P t=some v∧v.cells.toList=z:=by
 unfold pZ at h;cases hz:xt P t with
 |none=>rw[hz]at h;cases h
 |some v=>rw[hz]at h;simp only[bC.injEq]at h;exact⟨v,rfl,h⟩
theorem qM{t:TypeId}{v:Value}(h:xt P t=some v):∃i,P.info? t=some i∧i.zero=some v:=by
 unfold xt at h;cases hi:P.info? t with
 |none=>rw[hi]at h;cases h
 |some i=>rw[hi]at h;exact⟨i,rfl,h⟩
theorem PM{A B:List Value}{x:Value}{m:Nat}(h:A.length=m):(A++x::B).take (m+1)=A++ [x]:=by
 subst h;rw[List.take_append,bh (by omega),show A.length+1-A.length=1 by omega];rfl
theorem PN{A B:List Value}{x:Value}{m n:Nat}(h:A.length=m):(A++x::B).drop (m+1+n)=B.drop n:=by
 subst h;rw[List.drop_append,List.drop_eq_nil_of_le (by omega),show A.length+1+n-A.length=n+1 by omega];rfl
theorem Iw(off:Nat):∀(xs:List Value) (k:Nat) (arr:Array Value),off+k+xs.length≤arr.size→
  (xs.zipIdx k).foldl (fun cs (c,j)=>cs.setIfInBounds (off+j) c) arr=(H4 arr.toList (off+k) xs).toArray
 | [],k,arr,_=>by simp[H4]
 |x::xs,k,arr,h=>by
  simp only[aN]at h;simp only[List.zipIdx_cons,List.foldl_cons];rw[Iw off xs (k+1) _ (by simp;omega)];have hm:off+k<arr.toList.length:=by simp;omega
  have b:arr.toList.set (off+k) x=arr.toList.take (off+k)++x::arr.toList.drop (off+k+1):=by
   rw[List.set_eq_take_append_cons_drop,if_pos hm]
  have a:(arr.toList.take (off+k)).length=off+k:=by simp;omega
  congr 1
  unfold H4;rw[Array.toList_setIfInBounds,b,←mo,PM a,PN a];simp only[List.append_assoc,cM,List.nil_append,aN,List.drop_drop];rw[show off+k+1+xs.length=off+k+(xs.length+1) by omega]
theorem rX{a:Nat→Option (Nat×Nat)}:∀(parts:List (Nat×Value)) (cs cs':List Value),BK a cs parts=some cs'→Instr.fill a cs.toArray parts=some cs'.toArray
 | [],cs,cs',h=>by simp only[BK,bC.injEq]at h;subst h;rfl
 |(i,v)::rest,cs,cs',h=>by
  simp only[BK]at h;cases hp:a i with
  |none=>rw[hp]at h;cases h
  |some os=>
   obtain⟨off,size⟩:=os;rw[hp]at h;simp only at h;cases hb:(bD v.cells.toList.length size&&Nat.ble (off+v.cells.toList.length) cs.length)with
   |false=>rw[hb]at h;cases h
   |true=>
    rw[hb]at h;simp only[aY]at hb;have f:=aQ hb.1;have d:=oA hb.2;have b:=rX rest _ _ h;have g:v.cells.size=size:=by simpa using f
    have e:off+v.cells.size≤cs.length:=by simpa using d
    have c:Array.foldl (fun cs x=>cs.setIfInBounds (off+x.2) x.1) cs.toArray v.cells.zipIdx=(H4 cs off v.cells.toList).toArray:=by
     have:=Iw off v.cells.toList 0 cs.toArray (by simpa using e);simp only[df]at this;rw[←this,←Array.foldl_toList];congr 1
     simp[Array.toList_zipIdx]
    simp only[Instr.fill,hp];rw[if_neg (by simp[g];omega)];simp only[c];exact b
theorem ns{N:Nat}{r:ce}{a:Act}(h:Agree N r a):∀{ps:List (Nat×Operand)} {vs:List (Nat×Value)},pw r ps=some vs→ps.map (fun p=>(p.1,a.eval p.2))=vs
 | [],vs,hv=>by simp[pw]at hv;subst hv;rfl
 |(i,o)::ps,vs,hv=>by
  simp only[pw]at hv;cases ho:cR r o with
  |none=>simp[ho]at hv
  |some v=>cases hos:pw r ps with
   |none=>simp[ho,hos]at hv
   |some us=>simp[ho,hos]at hv;subst hv;simp[jq h ho,ns h hos]
theorem pC{t:TypeId}(h:wW P t=true)(w:World):(sizeOf t).run P w=.ok (bQ P t) w:=by
 unfold wW at h;cases hi:P.info? t with
 |none=>rw[hi]at h;cases h
 |some i=>simp[sizeOf,cA hi,bQ,hi]
theorem Dd(w:World):∀l:List Field,zA P l=true→(l.mapM fun f:Field=>((do pure (f.offset,←sizeOf f.type)):Sem (Nat×Nat))).run P w=.ok (l.map fun f:Field=>(f.offset,bQ P f.type)) w
 | [],_=>rfl
 |f::l,h=>by
  simp only[zA]at h;cases hf:wW P f.type with
  |false=>rw[hf]at h;cases h
  |true=>
   rw[hf]at h;rw[List.mapM_cons];simp only[Sem.run_bind,pC hf,Result.andThen_ok,Sem.run_pure,Dd w l h,bT]
theorem zx{t:TypeId}{ps:Array (Nat×Value)}{cs:List Value}(hb:GW P t ps.toList=some cs)(w:World):
  (Instr.build t ps).run P w=.ok (.agg cs.toArray) w:=by
 unfold GW at hb;split at hb
 ·rename_i fs z hu b
  obtain⟨v,b,hv⟩:=jm b;cases ha:zA P fs.toList with
  |false=>rw[ha]at hb;cases hb
  |true=>
   rw[ha]at hb;have g:(fs.mapM fun f:Field=>((do pure (f.offset,←sizeOf f.type)):Sem (Nat×Nat))).run P w=.ok (fs.map fun f:Field=>(f.offset,bQ P f.type)) w:=by
    rw[Array.mapM_eq_mapM_toList];simp only[Sem.run_map,Dd w fs.toList ha,Result.andThen_ok];congr 1
    apply cD;simp
   have d:=rX _ _ _ hb;have a:(fun i:Nat=>(fs.map fun f:Field=>(f.offset,bQ P f.type))[i]?)=Kf P fs.toList:=by
    funext i;unfold Kf;rw[Array.getElem?_map,aZ];cases fs[i]?<;>rfl
   have c:v.cells=z.toArray:=by rw[←hv]
   rw[cond_true]at hb;rw[←a]at d;simp only[Instr.build,Sem.run_bind,dZ b,Result.andThen_ok,av hu,g,c,d,Sem.run_pure]
 ·rename_i n e z hu b
  obtain⟨v,b,hv⟩:=jm b;cases ha:wW P e with
  |false=>rw[ha]at hb;cases hb
  |true=>
   rw[ha]at hb;have d:=rX _ _ _ hb;have c:v.cells=z.toArray:=by rw[←hv]
   simp only[Instr.build,Sem.run_bind,dZ b,Result.andThen_ok,av hu,pC ha,c,d,Sem.run_pure]
 ·cases hb
theorem AE{ek:Option (Kind×Kind)}{o:Oper}{r:ce}{K:RK}{h:ac}{N:Nat}{a:Act}(R:Agree N r a)(g:Aq P ek o.op r K h)(d:uh)(hd:DecOk d r):
  ∃v S,K v S∧Qw S h∧EX (Hp d o.op) v∧∀w:World,Qw S w.heap→(execOp a.eval o).run P w=.ok (.value v) w:=by
 have j:∀{x:Operand} {v:Value},cR r x=some v→a.eval x=v:=fun h=>jq R h
 have z:∀{s:Sem Value},Yv P s K h→Hp d o.op=.x→(∀w,(execOp a.eval o).run P w=(do pure (Next.value (←s)):Sem Next).run P w)→
   ∃v S,K v S∧Qw S h∧EX (Hp d o.op) v∧∀w:World,Qw S w.heap→(execOp a.eval o).run P w=.ok (.value v) w:=by
  rintro s ⟨v,S,n,B,A⟩ hx H;exact⟨v,S,n,B,by rw[hx];trivial,fun w D=>by rw[H w];exact iy (A w D)⟩
 obtain⟨T,O,type,pos,G,F⟩:=o;simp only at g z⊢;cases O with
 |move x=>
  simp only[Aq]at g;split at g
  ·rename_i v hv
   exact⟨v,none,g,trivial,tP hd hv,fun w _=>by simp[execOp,j hv]⟩
  ·exact g.elim
 |assign x=>
  simp only[Aq]at g;split at g
  ·rename_i v hv
   exact⟨v,none,g,trivial,tP hd hv,fun w _=>by simp[execOp,j hv]⟩
  ·exact g.elim
 |pick c x y=>
  simp only[Aq]at g;split at g
  ·rename_i vc va vb hc hx U
   unfold Sa at g;split at g
   ·rename_i cb
    have I:=tP hd hc;have W:=tP hd hx;have Y:=tP hd U;have H:∀w,(execOp a.eval ⟨T,.pick c x y,type,pos,G,F⟩).run P w=.ok (.value (if cb then va else vb)) w:=fun w=>by
     simp[execOp,j hc,j hx,j U,asBool]
    have J:EX (Hp d (.pick c x y)) (if cb then va else vb):=by
     simp only[Hp];cases hcd:zr d c with
     |t=>
      rw[hcd]at I;have:cb=true:=by simpa[EX]using I
      subst this;exact W
     |f=>
      rw[hcd]at I;have:cb=false:=by simpa[EX]using I
      subst this;exact Y
     |u=>trivial
     |x=>trivial
    split at g
    ·rename_i bx by'
     have Q:(if cb=true then Value.bool bx else Value.bool by')=.bool (bif cb then bx else by'):=by cases cb<;>rfl
     rw[Q]at J;exact⟨_,none,g,trivial,J,fun w _=>by rw[H w,Q]⟩
    ·cases cb
     ·exact⟨_,none,g,trivial,J,fun w _=>H w⟩
     ·exact⟨_,none,g,trivial,J,fun w _=>H w⟩
   ·exact g.elim
  ·exact g.elim
 |load t x=>
  simp only[Aq]at g;split at g
  ·rename_i v hv
   obtain⟨u,S,n,B,A⟩:=BA g;exact z ⟨u,some S,n,B,A⟩ rfl fun w=>by simp only[execOp,j hv]
  ·exact g.elim
 |nilCheck x=>
  simp only[Aq]at g;split at g
  ·rename_i p hv
   obtain⟨b,rfl,n⟩:=g;exact⟨_,none,n,trivial,trivial,fun w _=>by simp[execOp,j hv]⟩
  ·exact g.elim
 |binOp O t x y yt=>
  simp only[Aq]at g;split at g
  ·rename_i v u hv hu
   obtain⟨X,S,n,B,A⟩:=J0 (x:=x) (y:=y) g;refine⟨X,S,n,B,trivial,fun w D=>?_⟩
   simp only[execOp,j hv,j hu];exact iy (A w D)
  ·rename_i v u hna hv hu
   have go:(∀c d,v=.agg c→u=.agg d→False)∧(v=.nilIface→u=.nilIface→False)∧Yv P (binOp O t v u) K h:=by
    split at g
    ·exact Dh (neg:=false) g
    ·exact Dh (neg:=true) g
    ·exact JZ g
   obtain⟨h1,h2,X,S,n,B,A⟩:=go;refine⟨X,S,n,B,trivial,fun w D=>?_⟩
   simp only[execOp,j hv,j hu];simp[KW O t x y v u h1 h2 w,A w D]
  ·exact g.elim
 |unOp O t x=>
  simp only[Aq]at g;split at g
  ·rename_i v hv
   obtain⟨u,S,n,B,A⟩:=M6 (P:=P) (h:=h) g;refine⟨u,S,n,B,?_,fun w D=>by simp only[execOp,j hv];exact iy (A w D)⟩
   have L:=tP hd hv;cases O<;>try trivial
   simp only[Hp];have C:=A {(default:World)with heap:=h} B;cases hx:zr d x with
   |t=>
    rw[hx]at L;have:v=.bool true:=L;subst this;simp[Op.unary]at C;exact C.symm
   |f=>
    rw[hx]at L;have:v=.bool false:=L;subst this;simp[Op.unary]at C;exact C.symm
   |u=>trivial
   |x=>trivial
  ·exact g.elim
 |convert s t x=>
  simp only[Aq]at g;split at g
  ·rename_i v hv
   exact z (HZ g) rfl fun w=>by simp only[execOp,j hv]
  ·exact g.elim
 |extract x i=>
  simp only[Aq]at g;split at g
  ·rename_i vs hv
   split at g
   ·rename_i u hu
    have Z:vs[i]? =some u:=by simpa using hu
    exact⟨u,none,g,trivial,trivial,fun w _=>by simp[execOp,j hv,Instr.extract,Z]⟩
   ·exact g.elim
  ·exact g.elim
 |fieldAddr t x f=>
  simp only[Aq]at g;split at g
  ·rename_i b u off hv hf
   exact z (Ce hf g) rfl fun w=>by simp only[execOp,j hv]
  ·exact g.elim
 |field t x f=>
  simp only[Aq]at g;split at g
  ·rename_i v hv
   exact z (Gn g) rfl fun w=>by simp only[execOp,j hv]
  ·exact g.elim
 |indexAddr t x i=>
  simp only[Aq]at g;split at g
  ·rename_i v u hv hu
   exact z (AF g) rfl fun w=>by simp only[execOp,j hv,j hu]
  ·exact g.elim
 |index t x i=>
  simp only[Aq]at g;split at g
  ·rename_i v u hv hu
   exact z (Gm g) rfl fun w=>by simp only[execOp,j hv,j hu]
  ·exact g.elim
 |slice t x lo hi mx=>
  simp only[Aq]at g;split at g
  ·rename_i v l h' m hv hl hh hm
   have V:∀{x:Option Operand} {v:Option Value},Fh r x=some v→x.map a.eval=v:=by
    intro x v hx;cases x with
    |none=>simp[Fh]at hx;subst hx;rfl
    |some x=>
     simp only[Fh]at hx;cases H:cR r x with
     |none=>simp[H]at hx
     |some u=>simp[H]at hx;subst hx;simp[j H]
   exact z (Gk g) rfl fun w=>by simp only[execOp,j hv,V hl,V hh,V hm]
  ·exact g.elim
 |lookup t x k ok=>
  simp only[Aq]at g;split at g
  ·rename_i v u hv hu
   exact z (EG g) rfl fun w=>by simp only[execOp,j hv,j hu]
  ·exact g.elim
 |makeInterface t x=>
  simp only[Aq]at g;split at g
  ·rename_i v hv
   cases hb:px P t with
   |false=>rw[hb]at g;exact g.elim
   |true=>
    rw[hb,cond_true]at g;exact⟨_,none,g,trivial,trivial,fun w _=>by simp only[execOp,j hv];exact iy (zh hb w)⟩
  ·exact g.elim
 |typeAssert x u t ok=>
  simp only[Aq]at g;split at g
  ·rename_i v hv
   cases ok with
   |true=>exact g.elim
   |false=>
    rw[cond_false]at g;unfold L4 at g;cases hb:px P t with
    |false=>rw[hb]at g;exact g.elim
    |true=>
     rw[hb,cond_true]at g;split at g
     ·obtain⟨y,rfl,n⟩:=g
      exact⟨_,none,n,trivial,trivial,fun w _=>by simp only[execOp,j hv];exact iy (CT hb w)⟩
     ·exact g.elim
  ·exact g.elim
 |makeFunc fn first cap=>
  simp only[Aq]at g;split at g
  ·rename_i vs us hv hu
   have Q:=lp R hv;have e2:=lp R hu;refine⟨_,none,g,trivial,trivial,fun w _=>?_⟩
   have f1:first.map a.eval=vs.toArray:=by rw[←Q];apply cD;simp
   have f2:cap.map a.eval=us.toArray:=by rw[←e2];apply cD;simp
   simp[execOp,Instr.makeFunc,f1,f2]
  ·exact g.elim
 |entry it=>
  simp only[Aq]at g;split at g
  ·rename_i b kk vk hv
   obtain⟨h0,e,x,y,hi,n,U,hK⟩:=g;refine⟨_,_,hK,hi,trivial,fun w D=>?_⟩
   simp only[execOp,j hv];refine iy ?_;rw[NB h0 D,n,U]
  ·exact g.elim
 |call c=>
  simp only[Aq]at g;have E:∀{b:Builtin} {vs:List Value},c.callee=.builtin b→mJ r c.args.toList=some vs→∃cs:Array Bool,∀w,(execOp a.eval ⟨T,.call c,type,pos,G,F⟩).run P w=
    (builtin b c.argTypes type cs vs.toArray).run P w:=by
   intro b vs hc q;have Q:=lp R q;have f1:c.args.map a.eval=vs.toArray:=by rw[←Q];apply cD;simp
   refine⟨c.args.map fun| .const _=>true|_=>false,fun w=>?_⟩
   simp[execOp,resolve,hc,f1,invoke];rfl
  split at g
  ·rename_i v t hc q hat
   obtain⟨cs,E⟩:=E hc q;obtain⟨u,S,n,B,A⟩:=JU (ats:=c.argTypes) (ty:=type) (by rw[←aZ,hat];rfl) g;exact⟨u,S,n,B,trivial,fun w D=>by rw[E w];simp only[builtin];exact iy (A w D)⟩
  ·rename_i v t hc q hat
   obtain⟨cs,E⟩:=E hc q;obtain⟨u,S,n,B,A⟩:=JY (h:=h) (ats:=c.argTypes) (ty:=type) (by rw[←aZ,hat];rfl) g;exact⟨u,S,n,B,trivial,fun w D=>by rw[E w];simp only[builtin];exact iy (A w D)⟩
  ·rename_i vs hc q
   obtain⟨cs,E⟩:=E hc q;obtain⟨u,n,A⟩:=xD (P:=P) (ats:=c.argTypes) (ty:=type) g;exact⟨u,none,n,trivial,trivial,fun w _=>by rw[E w];simp only[builtin];exact iy (A w)⟩
  ·rename_i vs hc q
   obtain⟨cs,E⟩:=E hc q;obtain⟨u,n,A⟩:=xD (P:=P) (ats:=c.argTypes) (ty:=type) g;exact⟨u,none,n,trivial,trivial,fun w _=>by rw[E w];simp only[builtin];exact iy (A w)⟩
  ·exact g.elim
 |build t ps=>
  simp only[Aq]at g;split at g
  ·rename_i vs q
   split at g
   ·rename_i cs hcs
    refine⟨_,none,g,trivial,trivial,fun w _=>?_⟩
    have hp:(ps.map fun x=>(x.1,a.eval x.2))=vs.toArray:=by
     rw[←ns R q];apply cD;simp
    have H:=zx (ps:=vs.toArray) (by simpa using hcs) w;simp only[execOp];rw[show(ps.map fun(i,x)=>(i,a.eval x))=vs.toArray from hp]
    exact iy H
   ·exact g.elim
  ·exact g.elim
 |_=>simp only[Aq]at g
end Go.Lift
namespace Go.Lift
open Go
variable {P:Program}
def IM(P:Program)(s:Sem Next)(K:WK)(w:World):Prop:=
 (∃v a,s.run P w=.ok (.value v) a∧Tame w a∧K v a.heap)∨
 (∃a,s.run P w=.ok .skip a∧Tame w a∧K undef a.heap)∨
 (∃f args,s.run P w=.ok (.enter f args) w∧Calls P f args w fun e a=>Tame w a∧∃v,e=.returned v∧K v a.heap)∨
 (∃l fn tmps assign body,s.run P w=.ok (.round l fn tmps assign body) w∧
  ∀(c:Frame) (cs:List Frame),∃b a,Tame w a∧K (.bool b) a.heap∧Steps P (lone (Frame.round l fn tmps assign body .normal) (c::cs) w) (lone (c.finish (.bool b)) cs a))
def Wv(P:Program)(s:Sem Value)(K:WK)(w:World):Prop:=∃v w',s.run P w=.ok v w'∧Tame w w'∧K v w'.heap
theorem Wv.out{s:Sem Value}{K:WK}{w:World}(h:Wv P s K w):IM P (do pure (Next.value (←s))) K w:=by
 obtain⟨v,b,a,c,d⟩:=h;exact .inl ⟨v,b,iy a,c,d⟩
def Wu(P:Program)(s:Sem Unit)(K:WK)(w:World):Prop:=∃w',s.run P w=.ok () w'∧Tame w w'∧K undef w'.heap
theorem Wu.out{s:Sem Unit}{K:WK}{w:World}(h:Wu P s K w):IM P (do s;pure Next.skip) K w:=by
 obtain⟨b,a,c,d⟩:=h;exact .inr (.inl ⟨b,OW a,c,d⟩)
def jn(w:World)(h:ac):World:={w with heap:=h}
theorem dV(w:World)(h:ac):Tame w (jn w h):=⟨rfl,rfl,rfl⟩
theorem jv(e:TypeId)(cs:Array Value)(w:World):(newRow e cs).run P w=.ok (aH w.heap) (jn w (hnew w.heap cs.toList e)):=by
 simp[newRow,newObj,Sem.run,aH,jn,hnew,bind,Sem.bind,pure]
theorem C7(o:Obj)(w:World):(newObj o).run P w=.ok w.heap.size (jn w (w.heap.push o)):=rfl
theorem EK{h:ac}{a b:Addr}(v:Value)(c:a≠b):aX (hset h a v) b=aX h b:=
 World.cell?_setCell_other {(default:World)with heap:=h} a b v c
theorem Cc{h:ac}{a:Addr}{u:Value}(v:Value)(hc:aX h a=some u):aX (hset h a v) a=some v:=
 World.cell?_setCell_same {(default:World)with heap:=h} a v hc
theorem GL{h:ac}{a b:Addr}(v:Value):CB (hset h a v) b=CB h b:=
 World.frozen?_setCell {(default:World)with heap:=h} a b v
theorem Wr.hset{h:ac}{a b:Addr}(v:Value)(d:Wr h b):Wr (hset h a v) b:=by
 obtain⟨⟨u,c⟩,f⟩:=d;refine⟨?_,by rw[GL];exact f⟩
 by_cases e:a=b
 ·subst e;exact⟨v,Cc v c⟩
 ·exact⟨u,by rw[EK v e];exact c⟩
theorem JO{w:World}{a:Addr}{v:Value}(hv:∀cs,v≠ .agg cs)(c:∀cs,v≠ .tuple cs)(e:Wr w.heap a):(store a v).run P w=.ok () (jn w (hset w.heap a v)):=by
 obtain⟨⟨u,g⟩,f⟩:=e;have b:w.cell? a=some u:=g;have d:w.frozen? a=false:=f;cases v<;>first|exact absurd rfl (hv _)|exact absurd rfl (c _)|(simp only[store,Sem.run,b,d];rfl)
theorem Gx{v:Value}{vs:List Value}(h:bU (v::vs)=true):(∀cs,v≠ .agg cs)∧(∀cs,v≠ .tuple cs)∧bU vs=true:=by
 simp only[bU,aY]at h;refine⟨fun cs e=>?_,fun cs e=>?_,h.2⟩<;>(subst e;exact absurd h.1 (by simp))
theorem qX{a:Addr}:∀(vs:List Value) (i:Nat) (w:World),bU vs=true→(∀j,j<vs.length→Wr w.heap (adr a (i+j)))→
  (storeCells a vs i).run P w=.ok () (jn w (iJ w.heap a i vs))
 | [],i,w,_,_=>rfl
 |v::vs,i,w,b,hw=>by
  obtain⟨e,f,b⟩:=Gx b;have c:=hw 0 (by simp);simp only[df]at c;have d:a.add i=adr a i:=(th a i).symm;simp only[storeCells,d,Sem.run_bind,JO e f c,Result.andThen_ok];rw[qX vs (i+1) (jn w (hset w.heap (adr a i) v)) b fun j g=>?_]
  ·rfl
  ·have:=hw (j+1) (by simp only[aN];omega)
   rw[show i+1+j=i+(j+1) by omega]
   exact this.hset v
theorem FB{a:Addr}(m:Nat):∀(vs:List Value) (i:Nat) (h:ac),iJ h (adr a m) i vs=iJ h a (m+i) vs
 | [],_,_=>rfl
 |v::vs,i,h=>by
  simp only[iJ];rw[FB m vs (i+1),zD];rfl
theorem F7{t:TypeId}{a v:Value}{K:WK}{w:World}(c:Jy P t a v K w.heap):Wu P (Instr.storeAt t a v) K w:=by
 unfold Jy at c;split at c
 ·rename_i a
  cases hb:(bD v.cells.toList.length (bQ P t)&&bU v.cells.toList)with
  |false=>rw[hb]at c;exact c.elim
  |true=>
   rw[hb]at c;simp only[aY]at hb;have o:=aQ hb.1;obtain⟨c,n⟩:=oG c;have i:v.cells.size=bQ P t:=by simpa using o
   have m:(∀j,j<v.cells.toList.length→Wr w.heap (adr a (0+j)))→(Instr.storeAt t (.pointer (some a)) v).run P w=.ok () (jn w (iJ w.heap a 0 v.cells.toList)):=by
    intro d;have:=qX (P:=P) v.cells.toList 0 w hb.2 d;simp[Instr.storeAt,Instr.sureAddr,storeVar,n,i,this]
   split at c
   ·rename_i u hu
    obtain⟨d,g⟩:=c;refine⟨_,m (fun j f=>?_),dV _ _,?_⟩
    ·rw[hu]at f;simp only[aN,List.length_nil]at f
     obtain rfl:j=0:=by omega
     exact d
    ·rw[hu];exact g
   ·obtain⟨d,g⟩:=c
    refine⟨_,m (fun j f=>?_),dV _ _,g⟩
    rcases d with e|⟨b,k,d⟩
    ·rw[e]at f;cases f
    ·cases k;exact d j f
 ·exact c.elim
theorem i5(z:Array Value)(n:Nat):(Builtin.zeroCells z n).toList=c8 n z.toList:=by
 have key:∀n,(List.range (n*z.size)).map (fun i=>z[i%z.size]!)=(dM n z.toList).flatten:=by
  intro n;induction n with
  |zero=>simp
  |succ n ih=>
   rw[Nat.succ_mul,List.range_add,List.map_append,ih,List.replicate_succ',List.flatten_append];congr 1
   simp only[lJ,List.flatten_cons,List.flatten_nil,List.append_nil];apply List.ext_getElem
   ·simp
   ·intro i a b
    simp only[List.length_map,List.length_range]at a;simp[Nat.mod_eq_of_lt a,a,Nat.add_mod]
 simpa[Builtin.zeroCells,c8]using key n
theorem dd{t e:TypeId}(h:uY P t=some e):P.underlying t=some (.slice e):=by
 unfold uY at h;split at h
 ·rename_i e' hu;simp only[bC.injEq]at h;subst h;exact hu
 ·cases h
theorem LJ{z:Value}{n:Nat}:((Array.range (n*z.cells.size)).map (z.cells[· %z.cells.size]!))=(c8 n z.cells.toList).toArray:=by
 have:=i5 z.cells n;unfold Builtin.zeroCells at this;apply cD;rw[this]
theorem A4{t e:TypeId}{n:Nat}{ps:Array (Nat×Value)}{z cs:List Value}(o:uY P t=some e)(k:pZ P e=some z)(q:n*bQ P e≤16777216)(g:z.length=bQ P e)
  (hb:BK (fun i=>some (i*bQ P e,bQ P e)) (c8 n z) ps.toList=some cs)(w:World):
  (Instr.buildSlice t n ps).run P w=.ok (.slice (some (aH w.heap)) n n) (jn w (hnew w.heap cs e)):=by
 obtain⟨v,hv,c⟩:=jm k;obtain⟨i,hi,m⟩:=qM hv;have p:(sizeOf e).run P w=.ok (bQ P e) w:=by simp[sizeOf,cA hi,bQ,hi]
 have f:v.cells.size=bQ P e:=by rw[←g,←c];simp
 have j:=rX _ _ _ hb;have a:((Array.range (n*bQ P e)).map (fun i=>(if n*bQ P e=0 then #[]else v.cells)[i%(if n*bQ P e=0 then #[]else v.cells).size]!))=(c8 n z).toArray:=by
  by_cases b:n*bQ P e=0
  ·have:(c8 n z).length=0:=by simp[c8,g,b]
   rw[co.1 this];simp[b]
  ·simp only[if_neg b]
   rw[←f,LJ,c]
 have d:¬(n*bQ P e>2^24):=by omega
 simp only[Instr.buildSlice,Sem.run_bind,av (dd o),Result.andThen_ok,p,if_neg d];by_cases b:n*bQ P e=0
 ·simp only[if_pos b]at a
  simp only[if_pos b,Sem.run_bind,Sem.run_pure,Result.andThen_ok,a,j,jv]
 ·simp only[if_neg b]at a
  simp only[if_neg b,Sem.run_bind,Sem.run_pure,Result.andThen_ok,dZ hv,a,j,jv]
theorem M3{h:ac}{a:Addr}{vs:List Value}(b:Row h a vs):∀j v,vs[j]? =some v→aX h (a.add j)=some v:=fun j v hv=>by
 rw[←th];exact b j v hv
theorem wP{size n cap len:Nat}{b:Option Addr}{vs:List Value}{w:World}(d:SRow w.heap b (n*size) vs):(Builtin.firstCells size n (.slice b len cap)).run P w=.ok vs.toArray w:=by
 obtain⟨c,a⟩:=d;cases b with
 |none=>
  rcases a with rfl|⟨_,h,_⟩
  ·simp[Builtin.firstCells]
  ·cases h
 |some b=>
  refine run_firstCells_some w size n b len cap vs c fun j v hv=>?_
  rcases a with rfl|⟨_,h,a⟩
  ·cases hv
  ·cases h;exact M3 a j v hv
theorem CZ{a:Addr}{m:Nat}{xs:List Value}{w:World}(e:bU xs=true)(c:uj w.heap (some a) m xs):
  (storeCells (a.add m) xs).run P w=.ok () (jn w (iJ w.heap a m xs)):=by
 rcases c with rfl|⟨b,hb,c⟩
 ·rfl
 ·cases hb
  have:=qX (P:=P) (a:=adr a m) xs 0 w e fun j d=>by rw[zD,aA];exact c j d
  rw[←th,this,FB,df]
set_option maxHeartbeats 1000000 in
theorem D1{t e u ty:TypeId}{b:Option Addr}{sl f d:Nat}{xs:List Value}{x:Value}{K:WK}{w:World}(E:uY P t=some e)(k:(∃s,P.underlying u=some (.slice s))∨P.underlying u=some .string)
  (g:∀w,(Builtin.lenOf x).run P w=.ok d w)(hx:∀w':World,w'.heap=w.heap→(Builtin.firstCells (bQ P e) d x).run P w'=.ok xs.toArray w')
  (hi:∃i,P.info? e=some i)
  (h:P0 P e b sl f d xs K w.heap):Wv P (Builtin.append_ #[t,u] ty #[.slice b sl f,x]) K w:=by
 obtain⟨i,hi⟩:=hi;have j:bQ P e=i.size:=by simp[bQ,hi]
 have y:qg P e=i.bytes:=by simp[qg,hi]
 by_cases hc:sl+d≤f
 ·obtain⟨H,L,D⟩:=h.1 hc
  refine⟨_,_,?_,dV w (eW w.heap b (sl*bQ P e) xs),D⟩;cases b with
  |none=>
   have c:=hx w rfl;rw[j]at c;rcases k with⟨s,hd⟩|hd<;>(simp[Builtin.append_,av (dd E),av hd,sizeOf,cA hi,g,hc,c];rfl)
  |some a=>
   have n:=CZ (P:=P) L H;have c:=hx w rfl;rw[j]at n c;rcases k with⟨s,hd⟩|hd<;>(simp[Builtin.append_,av (dd E),av hd,sizeOf,cA hi,g,hc,c,n,eW,j])
 ·obtain⟨old,z,N,I,C,F,D⟩:=h.2 (by omega)
  obtain⟨v,hv,B⟩:=jm I;obtain⟨O,o,J⟩:=qM hv;rw[hi]at o;cases o;rw[y]at C F;have q:¬i.bytes=0:=by omega
  have m:¬(281474976710656<Builtin.nextslicecap (sl+d) f*i.bytes):=by omega
  have c:=hx w.drew rfl;have p:(Builtin.firstCells (bQ P e) sl (.slice b sl f)).run P w.drew=.ok old.toArray w.drew:=wP N;rw[j]at c p;have A:sl+d≤(Question.appendCap (sl+d) f e).cut (w.tape w.drawn (.appendCap (sl+d) f e)):=lI _ _;refine⟨_,jn w.drew (hnew w.heap (old++xs++c8 ((Question.appendCap (sl+d) f e).cut (w.tape w.drawn (.appendCap (sl+d) f e))-(sl+d)) z) e),?_,⟨rfl,rfl,rfl⟩,D _ A⟩
  have G:(Builtin.zeroCells v.cells ((Question.appendCap (sl+d) f e).cut (w.tape w.drawn (.appendCap (sl+d) f e))-(sl+d)))=(c8 ((Question.appendCap (sl+d) f e).cut (w.tape w.drawn (.appendCap (sl+d) f e))-(sl+d)) z).toArray:=by
   apply cD;rw[i5,B]
  rcases k with⟨s,hd⟩|hd<;>(simp[Builtin.append_,av (dd E),av hd,sizeOf,cA hi,g,hc,q,m,Question.forced,c,p,dZ hv,jv,G,aH];rfl)
theorem Dp{t:TypeId}{K:Prop}(h:Pg P t K):∃i,P.info? t=some i:=by
 unfold Pg at h;cases hi:P.info? t with
 |none=>rw[hi]at h;exact h.elim
 |some i=>exact⟨i,rfl⟩
theorem zj{t:TypeId}(h:bQ P t≠0):∃i,P.info? t=some i:=by
 cases hi:P.info? t with
 |none=>exact absurd (by simp[bQ,hi]) h
 |some i=>exact⟨i,rfl⟩
theorem BM{size n:Nat}{x:ByteArray}{w:World}:(Builtin.firstCells size n (.string x)).run P w=.ok ((bv x).take n).toArray w:=by
 simp only[Builtin.firstCells,Sem.run_pure];congr 1
 apply cD;simp[bv,oe,fJ,←List.map_take]
theorem xy{t u ty:TypeId}{s x:Value}{K:WK}{w:World}(c:(∃e',P.underlying u=some (.slice e'))∨P.underlying u=some .string)(h:Cq P t s x K w.heap):
  Wv P (Builtin.append_ #[t,u] ty #[s,x]) K w:=by
 unfold Cq at h;split at h
 ·rename_i e b sl sc a xl xc ht
  have hi:=Dp h;obtain⟨⟨xs,d,f⟩,j⟩:=oG h;exact D1 ht c (fun w=>rfl) (fun g i=>wP (by rw[i];exact d)) hi f
 ·rename_i e b sl sc x ht
  cases hb:bD (bQ P e) 1 with
  |false=>rw[hb]at h;exact h.elim
  |true=>
   rw[hb]at h;have m:=aQ hb;have k:(bv x).length=x.size:=by simp[bv]
   refine D1 ht c (fun w=>rfl) (fun g _=>?_) (zj (by omega)) h
   rw[BM,bh (by omega)]
 ·exact h.elim
theorem Ar{n:Int}(b:0≤n)(a:n≤9223372036854775807):IntKind.i64.wrap n=n:=IntWalk.i64_in n ⟨by omega,a⟩
theorem La{t e u ty:TypeId}{b:Option Addr}{sl d:Nat}{k0 k:IntKind}{l:Int}{z:List Value}{K:WK}{w:World}(y:uY P t=some e)(A:P.underlying u=some (.int k0))
  (T:pZ P e=some z)(S:z.length=bQ P e)(V:0≤l)(O:l*qg P e≤2^48)(Y:l≤9223372036854775807)(h3:((sl+l.toNat:Nat):Int)≤9223372036854775807)
  (h:P0 P e b sl d l.toNat (c8 l.toNat z) K w.heap):Wv P (Builtin.append_ #[t,u] ty #[.slice b sl d,.int k l]) K w:=by
 obtain⟨v,hv,D⟩:=jm T;obtain⟨i,hi,X⟩:=qM hv;have j:bQ P e=i.size:=by simp[bQ,hi]
 have B:qg P e=i.bytes:=by simp[qg,hi]
 have x:IntKind.wrap .i64 l=l:=Ar V Y;have g:¬l<0:=by omega
 rw[B]at O;have f:¬(281474976710656:Int)<l*i.bytes:=by omega
 have c:∀J:World,(asInt (.int k l)).run P J=.ok l J:=fun J=>rfl
 have E:(Builtin.zeroCells v.cells l.toNat)=(c8 l.toNat z).toArray:=by apply cD;rw[i5,D]
 have s:l.toNat*i.size=0→c8 l.toNat z= []:=fun Q=>by
  have C:(c8 l.toNat z).length=l.toNat*i.size:=by rw[←j,←S];unfold c8;simp
  exact co.1 (by rw[C,Q])
 by_cases hc:sl+l.toNat≤d
 ·obtain⟨I,O,H⟩:=h.1 hc
  refine⟨_,_,?_,dV w (eW w.heap b (sl*bQ P e) (c8 l.toNat z)),H⟩;cases b with
  |none=>
   by_cases m:l.toNat*i.size=0
   ·simp[Builtin.append_,av (dd y),av A,sizeOf,cA hi,c,x,g,f,hc,m];rfl
   ·simp[Builtin.append_,av (dd y),av A,sizeOf,cA hi,c,x,g,f,hc,dZ hv];rfl
  |some a=>
   have n:=CZ (P:=P) O I;rw[j]at n;by_cases m:l.toNat*i.size=0
   ·rw[s m]at n
    simp[Builtin.append_,av (dd y),av A,sizeOf,cA hi,c,x,g,f,hc,n,eW,j,m,s m]
   ·simp[Builtin.append_,av (dd y),av A,sizeOf,cA hi,c,x,g,f,hc,n,eW,j,m,dZ hv,E]
 ·obtain⟨old,z',Z,F,N,R,H⟩:=h.2 (by omega)
  rw[T]at F;cases F;rw[B]at N R;have U:¬i.bytes=0:=by omega
  have o:¬(281474976710656<Builtin.nextslicecap (sl+l.toNat) d*i.bytes):=by omega
  have W:¬(9223372036854775807:Int)<((sl:Int)+(l.toNat:Int)):=by omega
  have p:¬(9223372036854775807:Int)<((sl:Int)+max l 0):=by omega
  have q:(Builtin.firstCells (bQ P e) sl (.slice b sl d)).run P w.drew=.ok old.toArray w.drew:=wP Z;rw[j]at q;have L:sl+l.toNat≤(Question.appendCap (sl+l.toNat) d e).cut (w.tape w.drawn (.appendCap (sl+l.toNat) d e)):=lI _ _;refine⟨_,jn w.drew (hnew w.heap (old++c8 l.toNat z++c8 ((Question.appendCap (sl+l.toNat) d e).cut (w.tape w.drawn (.appendCap (sl+l.toNat) d e))-(sl+l.toNat)) z) e),?_,⟨rfl,rfl,rfl⟩,H _ L⟩
  have G:(Builtin.zeroCells v.cells ((Question.appendCap (sl+l.toNat) d e).cut (w.tape w.drawn (.appendCap (sl+l.toNat) d e))-(sl+l.toNat)))=(c8 ((Question.appendCap (sl+l.toNat) d e).cut (w.tape w.drawn (.appendCap (sl+l.toNat) d e))-(sl+l.toNat)) z).toArray:=by
   apply cD;rw[i5,D]
  by_cases m:l.toNat*i.size=0
  ·rw[s m]at H⊢
   simp[Builtin.append_,av (dd y),av A,sizeOf,cA hi,c,x,g,f,hc,p,o,Question.forced,q,dZ hv,jv,G,aH,m];rfl
  ·simp[Builtin.append_,av (dd y),av A,sizeOf,cA hi,c,x,g,f,hc,p,o,Question.forced,q,dZ hv,jv,G,aH,m,E];rfl
theorem CN{t u ty:TypeId}{k0:IntKind}{s x:Value}{K:WK}{w:World}(i:P.underlying u=some (.int k0))(h:CO P t s x K w.heap):
  Wv P (Builtin.append_ #[t,u] ty #[s,x]) K w:=by
 unfold CO at h;split at h
 ·rename_i e b sl sc k l ht
  split at h
  ·rename_i z hz
   cases hb:bD z.length (bQ P e)with
   |false=>rw[hb]at h;exact h.elim
   |true=>
    rw[hb]at h;obtain⟨⟨d,f,c,g⟩,a⟩:=h;exact La ht i hz (aQ hb) d f c g a
  ·exact h.elim
 ·exact h.elim
theorem lr:∀{a b:List Value},bU a=true→bU b=true→bU (a++b)=true
 | [],_,_,h=>h
 |v::a,b,h,k=>by
  simp only[bU,cM,aY]at h⊢;exact⟨h.1,lr h.2 k⟩
theorem y8{z:List Value}(h:bU z=true):∀n,bU (c8 n z)=true
 |0=>rfl
 |n+1=>by
  have:c8 (n+1) z=z++c8 n z:=by simp[c8,List.replicate_succ]
  rw[this];exact lr h (y8 h n)
theorem F8{t ty:TypeId}{x:Value}{K:WK}{w:World}(h:Jz P t x K w.heap):Wv P (Builtin.clear_ #[t] ty #[x]) K w:=by
 unfold Jz at h;split at h
 ·rename_i e a n c ht
  split at h
  ·rename_i z hz
   obtain⟨v,hv,f⟩:=jm hz;cases ho:bU z with
   |false=>rw[ho]at h;exact h.elim
   |true=>
    rw[ho]at h;obtain⟨i,g⟩:=h;refine⟨_,_,?_,dV w (eW w.heap a 0 (c8 n z)),g⟩;cases a with
    |none=>simp[Builtin.clear_,av (dd ht)];rfl
    |some a=>
     cases n with
     |zero=>simp[Builtin.clear_,av (dd ht)];rfl
     |succ n=>
      have b:=CZ (P:=P) (y8 ho (n+1)) i;rw[←th,D4]at b;have d:(Builtin.zeroCells v.cells (n+1)).toList=c8 (n+1) z:=by rw[i5,f]
      simp[Builtin.clear_,av (dd ht),dZ hv,d,b,eW]
  ·exact h.elim
 ·exact h.elim
theorem y9:∀(xs:List Value) (n:Nat),bU xs=true→bU (xs.take n)=true
 | [],n,_=>by simp[bU]
 |x::xs,0,_=>by simp[bU]
 |x::xs,n+1,h=>by
  simp only[bU,aY,List.take_succ_cons]at h⊢;exact⟨h.1,y9 xs n h.2⟩
theorem EH(x:ByteArray):bU (bv x)=true:=by
 have:∀l:List UInt8,bU (l.map fun b=>.int .u8 (b.toNat:Int))=true:=by
  intro l;induction l with
  |nil=>rfl
  |cons b l ih=>simp[bU,ih]
 exact this _
theorem Hx{t u ty:TypeId}{d s:Value}{K:WK}{w:World}(h:Om P t d s K w.heap):Wv P (Builtin.copy_ #[t,u] ty #[d,s]) K w:=by
 unfold Om at h;split at h
 ·rename_i e b dl dc a sl sc ht
  obtain⟨⟨xs,o,n,p,k⟩,g⟩:=oG h;refine⟨_,_,?_,dV w (eW w.heap b 0 xs),k⟩;have j:=wP (P:=P) (len:=sl) (cap:=sc) o;cases b with
  |none=>simp[Builtin.copy_,av (dd ht),Builtin.lenOf,g,j,goInt];rfl
  |some c=>
   have f:=CZ (P:=P) (m:=0) p n;simp only[Addr.add,if_pos]at f;simp[Builtin.copy_,av (dd ht),Builtin.lenOf,g,j,goInt,f,eW]
 ·rename_i e b dl dc x ht
  cases hb:bD (bQ P e) 1 with
  |false=>rw[hb]at h;exact h.elim
  |true=>
   rw[hb]at h;have p:=aQ hb;obtain⟨i,hi⟩:=zj (P:=P) (t:=e) (by omega);have g:(sizeOf e).run P w=.ok (bQ P e) w:=by simp[sizeOf,cA hi,bQ,hi]
   obtain⟨n,k⟩:=h;have v:(bv x).length=x.size:=by simp[bv]
   have q:(bv x).take (dy x.size dl)=(bv x).take dl:=by
    by_cases hx:x.size≤dl
    ·rw[show dy x.size dl=x.size from Nat.min_eq_left hx,bh (by omega),bh (by omega)]
    ·rw[show dy x.size dl=dl from Nat.min_eq_right (by omega)]
   have j:(Builtin.firstCells (bQ P e) (dy x.size dl) (.string x)).run P w=.ok ((bv x).take dl).toArray w:=by
    rw[BM,q]
   refine⟨_,_,?_,dV w (eW w.heap b 0 ((bv x).take dl)),k⟩;cases b with
   |none=>simp[Builtin.copy_,av (dd ht),Builtin.lenOf,g,j,goInt];rfl
   |some c=>
    have f:=CZ (P:=P) (m:=0) (y9 _ dl (EH x)) n;simp only[Addr.add,if_pos]at f;simp[Builtin.copy_,av (dd ht),Builtin.lenOf,g,j,goInt,f,eW]
 ·exact h.elim
theorem L5(k v:Value)(a:Nat):∀(es:List MapEntry),(match es.findIdx? (fun e=>fo k e.key)with
  |some i=>(es.modify i (fun e=>{e with key:=k,val:=v}),a)
  |none=>(es++ [{key:=k,val:=v,born:=a}],a+1))=Gq k v a es
 | []=>rfl
 |e::es=>by
  have b:=L5 k v a es;simp only[Gq,List.findIdx?_cons];cases hk:fo k e.key with
  |true=>simp[List.modify]
  |false=>
   simp only[di,if_false];rw[←b];cases hf:es.findIdx? (fun e=>fo k e.key)with
   |none=>simp
   |some i=>simp[List.modify]
theorem vU{d:TypeDesc}{c:CK}(hd:nO d c)(x:c.den):∀(es:List MapEntry) (i:Nat),keysOf c es→
  Instr.findNow d (c.enc x) es i=some (match es.findIdx? (fun e=>fo (c.enc x) e.key)with
   |some j=>(es[j]?).map fun e=>(i+j,e.val)
   |none=>none)
 | [],i,_=>rfl
 |e::es,i,h=>by
  obtain⟨y,k⟩:=h e (by simp);have b:=Bv hd x y;rw[←k]at b;have f:=vU hd x es (i+1) fun g a=>h g (by simp[a])
  simp only[Instr.findNow,List.findIdx?_cons,b];cases hb:fo (c.enc x) e.key with
  |true=>simp
  |false=>
   simp only[di,if_false];rw[f];cases hf:es.findIdx? (fun e=>fo (c.enc x) e.key)with
   |none=>simp
   |some j=>simp[mo,Nat.add_comm 1 j]
theorem u0{a b:ByteArray}(h:(a==b)=true):a=b:=by
 cases a with|mk a=>cases b with|mk b=>
 have h:(a==b)=true:=h;rw[eq_of_beq h]
theorem ww(a:ByteArray):(a==a)=true:=by
 cases a with|mk a=>
 exact beq_self_eq_true a
theorem Gh{d:TypeDesc}{c:CK}(hd:nO d c)(x y:c.den)(h:fo (c.enc x) (c.enc y)=true):Instr.sameBits 10000 (c.enc y) (c.enc x)=true:=by
 rcases hd with⟨i,rfl,rfl⟩|⟨rfl,rfl⟩|⟨rfl,rfl⟩
 ·have h:x=y:=eq_of_beq (α:=Int) h
  subst h;have:∀n:Int,(i==i&&n==n)=true:=fun n=>by simp
  exact this x
 ·have h:x=y:=u0 h
  subst h;exact ww x
 ·have h:x=y:=eq_of_beq (α:=Bool) h
  subst h;exact beq_self_eq_true (α:=Bool) x
theorem uq{w:World}{r:Nat}{es:Array MapEntry}{a:Nat}{o:Obj}(h:w.heap[r]? =some (.map es a)):(setObj r o).run P w=.ok () (jn w (w.heap.setIfInBounds r o)):=by
 simp only[setObj,Sem.run,h];rfl
theorem Kp{t k e:TypeId}{d:TypeDesc}{c:CK}(z:P.underlying t=some (.map k e))(o:P.underlying k=some d)(hd:nO d c){r:Nat}{x:c.den}{v:Value}{w:World}(hm:ru c w.heap r):
  (Instr.mapUpdate t (.map (some r)) (c.enc x) v).run P w=.ok () (jn w (kP w.heap r (c.enc x) v)):=by
 obtain⟨es,a,hb,f⟩:=hm;obtain⟨q,u,b,B⟩:=uy (P:=P) hd o x f w;rw[vU hd x es.toList 0 f]at b;have g:=L5 (c.enc x) v a es.toList;have n:kP w.heap r (c.enc x) v=w.heap.setIfInBounds r (.map (Gq (c.enc x) v a es.toList).1.toArray (Gq (c.enc x) v a es.toList).2):=by
  simp only[kP,hb]
 rw[n,←g];simp only[Instr.mapUpdate,Sem.run_bind,av z,Result.andThen_ok,kJ hb,ma hd o,u];cases hf:es.toList.findIdx? (fun e=>fo (c.enc x) e.key)with
 |none=>
  rw[hf]at b;simp only[bC.injEq]at b;subst b;simp only[uq hb];congr 4
  apply cD;simp
 |some i=>
  rw[hf]at b;simp only[bC.injEq]at b;obtain⟨hi,s,_⟩:=List.findIdx?_eq_some_iff_getElem.1 hf;have p:es.toList[i]? =some es.toList[i]:=al hi;rw[p]at b;simp only[iC,aA]at b;subst b;have j:es[i]? =some es.toList[i]:=by rw[←aZ];exact p
  obtain⟨y,A⟩:=f es.toList[i] (List.getElem_mem hi);have m:Instr.sameBits 10000 (es.toList[i]).key (c.enc x)=true:=by
   rw[A]at s⊢;exact Gh hd x y s
  simp only[j,iC,Option.getD_some,Instr.keyThatStays,m,if_true,Sem.run_bind,Sem.run_pure,Result.andThen_ok,uq hb];congr 4
  apply cD;simp
theorem xx{t:TypeId}{m k v:Value}{K:WK}{w:World}(h:Cp P t m k v K w.heap):Wu P (Instr.mapUpdate t m k v) K w:=by
 unfold Cp at h;split at h
 ·rename_i c e m hc
  obtain⟨g,d,f,a,hd⟩:=vP hc;obtain⟨i,rfl,r,rfl,hm,b⟩:=CK.dec_sound h;exact⟨_,Kp f a hd hm,dV _ _,b⟩
 ·exact h.elim
theorem Iz(k:Value):∀(es:List MapEntry),(match es.findIdx? (fun e=>fo k e.key)with
  |some i=>es.eraseIdx i
  |none=>es)=DI k es
 | []=>rfl
 |e::es=>by
  have a:=Iz k es;simp only[DI,List.findIdx?_cons];cases hk:fo k e.key with
  |true=>simp
  |false=>
   simp only[di,if_false];rw[←a];cases hf:es.findIdx? (fun e=>fo k e.key)<;>simp
theorem Ie{t k e ty:TypeId}{ts:Array TypeId}{d:TypeDesc}{c:CK}(v:ts[0]? =some t) (u:P.underlying t=some (.map k e)) (o:P.underlying k=some d) (hd:nO d c) {r:Nat} {x:c.den} {w:World} (hm:ru c w.heap r):
  (Builtin.delete_ ts ty #[.map (some r),c.enc x]).run P w=.ok (.tuple #[]) (jn w (BF w.heap r (c.enc x))):=by
 obtain⟨es,f,hb,j⟩:=hm;obtain⟨q,s,a,z⟩:=uy (P:=P) hd o x j w;rw[vU hd x es.toList 0 j]at a;have g:=Iz (c.enc x) es.toList;have n:BF w.heap r (c.enc x)=w.heap.setIfInBounds r (.map (DI (c.enc x) es.toList).toArray f):=by
  simp only[BF,hb]
 rw[n,←g];simp only[Builtin.delete_,v,List.getElem?_toArray,List.getElem?_cons_zero,List.getElem?_cons_succ,Sem.run_bind,av u,Result.andThen_ok,kJ hb,ma hd o,s];cases hf:es.toList.findIdx? (fun e=>fo (c.enc x) e.key)with
 |none=>
  rw[hf]at a;simp only[bC.injEq]at a;subst a;simp[uq hb]
 |some i=>
  rw[hf]at a;simp only[bC.injEq]at a;obtain⟨hi,y,_⟩:=List.findIdx?_eq_some_iff_getElem.1 hf;have p:es.toList[i]? =some es.toList[i]:=al hi;rw[p]at a;simp only[iC,aA]at a;subst a;have m:i<es.size:=by simpa using hi
  have b:es.eraseIdxIfInBounds i=(es.toList.eraseIdx i).toArray:=by
   apply cD;simp[Array.eraseIdxIfInBounds,m]
  simp[uq hb,b]
theorem CL{t ty:TypeId}{ts:Array TypeId}{m k:Value}{K:WK}{w:World}(g:ts[0]? =some t) (h:CM P t m k K w.heap):Wv P (Builtin.delete_ ts ty #[m,k]) K w:=by
 unfold CM at h;split at h
 ·rename_i c e m hc
  obtain⟨i,d,f,b,hd⟩:=vP hc;obtain⟨j,rfl,h⟩:=CK.dec_sound h;rcases h with⟨rfl,a⟩|⟨r,rfl,hm,a⟩
  ·refine⟨_,w,?_,Tame.refl w,a⟩
   simp[Builtin.delete_,g,av f,ma hd b]
  ·exact⟨_,_,Ie g f b hd hm,dV _ _,a⟩
 ·exact h.elim
theorem M5{t k e:TypeId}(b:P.underlying t=some (.map k e)){m:Option Nat}{a:Nat}{w:World}(hm:m=none∧a=0∨∃r es,m=some r∧w.heap[r]? =some (.map es a)):
  (Instr.range t (.map m)).run P w=.ok (.pointer (some (aH w.heap))) (jn w (w.heap.push (.mapIter m a #[] a))):=by
 rcases hm with⟨rfl,rfl⟩|⟨r,es,rfl,hb⟩
 ·simp only[Instr.range,Sem.run_bind,av b,Result.andThen_ok,Sem.run_pure,C7,aH]
 ·simp only[Instr.range,Sem.run_bind,av b,Result.andThen_ok,Sem.run_pure,kJ hb,C7,aH]
theorem vH{w:World}{i:Nat}{m:Option Nat}{a:Nat}{b:Array Nat}{last:Nat}(h:w.heap[i]? =some (.mapIter m a b last)):(getObj i).run P w=.ok (.mapIter m a b last) w:=by
 simp only[getObj,Sem.run,h]
theorem HP{w:World}{i:Nat}{m:Option Nat}{a:Nat}{b:Array Nat}{last:Nat}{o:Obj}(h:w.heap[i]? =some (.mapIter m a b last)):(setObj i o).run P w=.ok () (jn w (w.heap.setIfInBounds i o)):=by
 simp only[setObj,Sem.run,h];rfl
theorem DR(n:Nat)(a:0<n)(w:World):∃k w',k<n∧(choose (.mapNext n)).run P w=.ok k w'∧Tame w w'∧w'.heap=w.heap:=by
 unfold choose;simp only[Sem.run];by_cases h:(Question.mapNext n).forced=true
 ·exact⟨0,w,a,by rw[if_pos h],Tame.refl w,rfl⟩
 ·refine⟨(Question.mapNext n).cut (w.tape w.drawn (.mapNext n)),{w with drawn:=w.drawn+1},Nat.mod_lt _ a,by rw[if_neg h],⟨rfl,rfl,rfl⟩,rfl⟩
theorem Hw{J:Value}{t:TypeId}{K:WK}{w:World}(h:Ol J K w.heap):Wv P (Instr.next J false t) K w:=by
 unfold Ol at h;split at h
 ·rename_i a
  obtain⟨I,m,j,g,last,hi,h⟩:=h;obtain⟨b,off,N⟩:=a;simp only at I hi h;subst I;rcases h with⟨rfl,R⟩|⟨r,es,v,rfl,hb,B,A,G⟩
  ·exact⟨_,w,by simp only[Instr.next,Sem.run_bind,vH hi,Result.andThen_ok,Sem.run_pure],Tame.refl w,R⟩
  ·have s:(!g.isEmpty&& !es.isEmpty&&es.all (fun e=>decide (e.born≥last)))=false:=by
    rcases B with h|h|h<;>simp[h]
   obtain⟨left,i⟩:∃left,left=es.filter fun e=> !g.contains e.born:=⟨_,rfl⟩
   obtain⟨old,p⟩:∃old,old=left.filter (·.born<j):=⟨_,rfl⟩
   obtain⟨new,hnew⟩:∃new,new=left.filter (·.born≥j):=⟨_,rfl⟩
   obtain⟨d,f⟩:∃d:Array (Option MapEntry),d=(if old.isEmpty then #[none]else #[])++(old++new).map some:=⟨_,rfl⟩
   have z:0<d.size:=by
    rw[f];by_cases y:old.isEmpty=true
    ·simp[y];omega
    ·have:old.size≠0:=by simpa using y
     simp[y];omega
   obtain⟨k,D,O,u,L,H⟩:=DR (P:=P) d.size z w;obtain⟨c,hc⟩:∃c,d[k]? =some c:=⟨d[k],Array.getElem?_eq_getElem O⟩;have F:D.heap[b]? =some (.mapIter (some r) j g last):=by rw[H];exact hi
   have n:(!g.isEmpty&& !es.isEmpty&&es.all fun x=>decide (x.born≥last))=false:=s
   cases c with
   |none=>
    refine⟨.tuple #[.bool false],D,?_,L,?_⟩
    ·simp only[Instr.next,Sem.run_bind,vH hi,Result.andThen_ok,Sem.run_pure,kJ hb,n,di,if_false,←i,←p,←hnew,←f,u,hc]
    ·rw[H]
     have q:old.isEmpty=true:=by
      have hm:none∈d:=Array.mem_of_getElem? hc;rw[f]at hm;by_cases y:old.isEmpty=true
      ·exact y
      ·simp[y]at hm
     refine A fun e Q E=>?_
     cases hs:g.contains e.born with
     |true=>rfl
     |false=>
      have o:e∈old:=by
       rw[p,i];simp only[pa];exact⟨⟨by simpa using Q,by rw[hs];rfl⟩,by simpa using E⟩
      rw[Array.isEmpty_iff]at q;rw[q]at o;simp at o
   |some e=>
    have o:e∈es∧g.contains e.born=false:=by
     have hm:some e∈d:=Array.mem_of_getElem? hc;have C:e∈left:=by
      rw[f]at hm;rw[Array.mem_append]at hm;rcases hm with hm|hm
      ·split at hm<;>simp at hm
      ·simp only[Array.mem_map,bC.injEq,exists_eq_right,Array.mem_append]at hm
       rcases hm with hm|hm
       ·rw[p]at hm;exact(pa.1 hm).1
       ·rw[hnew]at hm;exact(pa.1 hm).1
     rw[i]at C;have:=pa.1 C;exact⟨this.1,by simpa using this.2⟩
    refine⟨.tuple #[.bool true,e.key,e.val],jn D (D.heap.setIfInBounds b (.mapIter (some r) j (g.push e.born) v)),?_,L.trans (dV _ _),?_⟩
    ·simp only[Instr.next,Sem.run_bind,vH hi,Result.andThen_ok,Sem.run_pure,kJ hb,n,di,if_false,←i,←p,←hnew,←f,u,hc,HP F]
    ·rw[H]
     exact G e (by simpa using o.1) o.2
 ·exact h.elim
theorem EI{t e:TypeId}{z:List Value}{k k':IntKind}{l c:Int}{w:World}(u:uY P t=some e)(A:pZ P e=some z)(g:z.length=bQ P e)(y:0≤l)(E:l≤c)(C:c≤9223372036854775807)(D:qg P e*c≤2^48):
  (Instr.makeSlice t (.int k l) (.int k' c)).run P w=.ok (.slice (some (aH w.heap)) l.toNat c.toNat) (jn w (hnew w.heap (c8 c.toNat z) e)):=by
 obtain⟨v,hv,d⟩:=jm A;obtain⟨i,hi,B⟩:=qM hv;have b:bQ P e=i.size:=by simp[bQ,hi]
 have m:qg P e=i.bytes:=by simp[qg,hi]
 have o:v.cells.size=i.size:=by rw[←b,←g,←d];simp
 have s:=Ar y (by omega);have hc:=Ar (show 0≤c by omega) C
 rw[m]at D;have c1:¬(c<0):=by omega
 have q:¬(281474976710656<(i.bytes:Int)*c):=by omega
 have x:¬(l<0):=by omega
 have p:¬(c<l):=by omega
 by_cases a:c.toNat*i.size=0
 ·have n:(c8 c.toNat z).length=0:=by simp[c8,g,b,a]
  rw[co.1 n];simp[Instr.makeSlice,av (dd u),asInt,asIntOf,cA hi,s,hc,c1,q,x,p,sizeOf,a,jv]
 ·have f:((Array.range (c.toNat*i.size)).map (fun j=>v.cells[j%v.cells.size]!))=(c8 c.toNat z).toArray:=by
   rw[←o,LJ,d]
  have key:(newRow e ((Array.range (c.toNat*i.size)).map (fun j=>v.cells[j%v.cells.size]!))).run P w=.ok (aH w.heap) (jn w (hnew w.heap (c8 c.toNat z) e)):=by
   rw[f,jv]
  simp[Instr.makeSlice,av (dd u),asInt,asIntOf,cA hi,s,hc,c1,q,x,p,sizeOf,a,dZ hv];rw[key];rfl
theorem Agree.args{N:Nat}{r:ce}{a:Act}(h:Agree N r a){os:Array Operand}{vs:List Value}(hv:mJ r os.toList=some vs):os.map a.eval=vs.toArray:=by
 rw[←lp h hv];apply cD;simp
theorem HC.out{f:FuncId}{args:List Value}{ks:List Kind}{K:WK}{w:World}(h:HC P f args ks (fun x h'=>K (Ca ks (lR ks x)) h') w.heap):IM P (callFunc f args.toArray) K w:=by
 rcases h.run w rfl with⟨b,g⟩|⟨v,d,b,c,x,rfl,a⟩
 ·refine .inr (.inr (.inl ⟨f,args.toArray,b,g.mono ?_⟩))
  rintro e d ⟨c,x,rfl,a⟩;exact⟨c,_,rfl,a⟩
 ·exact .inl ⟨_,d,b,c,a⟩
theorem NI{a b e:TypeId}{s:ByteArray}{w:World}(k:P.underlying a=some .string)(hd:P.underlying b=some (.slice e))(g:P.underlying e=some (.int .u8)):
  ∃c,s.size≤c∧(convert a b (.string s)).run P w=.ok (.slice (some (aH w.heap)) s.size c) (jn w.drew (w.heap.push (.cells (bv s++dM (c-s.size) (Value.int .u8 0)).toArray e (c,c+1)))):=by
 have d:s.size≤grownCap w s.size 0 e:=lI _ _;refine⟨_,d,?_⟩;rw[Go.Lib.run_convert_string_bytes w a b e s k hd g];have hc:(Go.Lib.bytesCells w e s).size=grownCap w s.size 0 e:=by
  unfold Go.Lib.bytesCells;rw[Array.size_append,Array.size_map,Array.size_replicate,show s.data.size=s.size from rfl]
  omega
 have f:(bv s++dM (grownCap w s.size 0 e-s.size) (Value.int .u8 0)).toArray=Go.Lib.bytesCells w e s:=by
  unfold Go.Lib.bytesCells bv;apply cD;simp
 rw[f];unfold Go.Lib.bytesWorld World.freeze;rw[if_neg (by omega),hc];unfold World.alloc World.drew jn;congr 1
 congr 1
 apply Array.ext (by simp);intro i m j;rw[Array.getElem_modify];simp only[Array.getElem_push];split
 ·rename_i e
  subst e;simp
 ·rename_i e
  have hi:i<w.heap.size:=by simp at j;omega
  rw[dif_pos hi,dif_pos hi]
theorem Au{o:Oper}{r:ce}{K:WK}{w:World}{N:Nat}{a:Act}(G:Agree N r a)(j:Ey P o r K w.heap):IM P (execOp a.eval o) K w:=by
 have A:∀{x:Operand} {v:Value},cR r x=some v→a.eval x=v:=fun h=>jq G h
 obtain⟨W,Z,type,pos,E,D⟩:=o;cases Z with
 |alloc t=>
  simp only[Ey]at j;split at j
  ·rename_i z hz
   obtain⟨v,hv,R⟩:=jm hz;have C:(Instr.alloc t true (.tuple #[])).run P w=.ok (.pointer (some (aH w.heap))) (jn w (hnew w.heap z t)):=by
    simp[Instr.alloc,dZ hv,newVar,jv,R]
   exact Wv.out ⟨_,_,C,dV _ _,j⟩
  ·exact j.elim
 |box t x=>
  simp only[Ey]at j;split at j
  ·rename_i v hv
   have C:(Instr.box t v).run P w=.ok (.pointer (some (aH w.heap))) (jn w (hnew w.heap v.cells.toList t)):=by
    simp[Instr.box,newVar,jv]
   simp only[execOp,A hv];exact Wv.out ⟨_,_,C,dV _ _,j⟩
  ·exact j.elim
 |build t ps=>
  simp only[Ey]at j;split at j
  ·rename_i vs p
   split at j
   ·rename_i cs hcs
    have S:(ps.map fun x=>(x.1,a.eval x.2))=vs.toArray:=by
     rw[←ns G p];apply cD;simp
    have C:=zx (ps:=vs.toArray) (by simpa using hcs) w;simp only[execOp];rw[show(ps.map fun(i,x)=>(i,a.eval x))=vs.toArray from S]
    exact Wv.out ⟨_,w,C,Tame.refl w,j⟩
   ·exact j.elim
  ·exact j.elim
 |buildSlice t n ps=>
  simp only[Ey]at j;split at j
  ·rename_i e vs H p
   split at j
   ·rename_i z hz
    cases hb:(Nat.ble (n*bQ P e) 16777216&&bD z.length (bQ P e))with
    |false=>rw[hb]at j;exact j.elim
    |true=>
     rw[hb]at j;simp only[aY]at hb;simp only[cond_true]at j;split at j
     ·rename_i cs hcs
      have S:(ps.map fun x=>(x.1,a.eval x.2))=vs.toArray:=by
       rw[←ns G p];apply cD;simp
      have C:=A4 (ps:=vs.toArray) H hz (oA hb.1) (aQ hb.2) (by simpa using hcs) w;simp only[execOp];rw[show(ps.map fun(i,x)=>(i,a.eval x))=vs.toArray from S]
      exact Wv.out ⟨_,_,C,dV _ _,j⟩
     ·exact j.elim
   ·exact j.elim
  ·exact j.elim
 |store t x y=>
  simp only[Ey]at j;split at j
  ·rename_i b v hb hv
   simp only[execOp,A hb,A hv];exact Wu.out (F7 j)
  ·exact j.elim
 |mapUpdate t m k x=>
  simp only[Ey]at j;split at j
  ·rename_i mv kv xv hm B hx
   simp only[execOp,A hm,A B,A hx];exact Wu.out (xx j)
  ·exact j.elim
 |insert t m k x=>
  simp only[Ey]at j;split at j
  ·rename_i mv kv xv hm B hx
   simp only[execOp,A hm,A B,A hx];exact Wu.out (xx j)
  ·exact j.elim
 |makeMap t n=>
  simp only[Ey]at j;cases n with
  |none=>exact Wv.out ⟨_,jn w (w.heap.push (.map #[] 0)),by simp[Instr.makeMap];rfl,dV _ _,j⟩
  |some n=>
   simp only at j;split at j
   ·rename_i k i hn H
    exact Wv.out ⟨_,jn w (w.heap.push (.map #[] 0)),by simp[Instr.makeMap,A hn,av H,asInt,asIntOf];rfl,dV _ _,j⟩
   ·exact j.elim
 |makeSlice t l c=>
  simp only[Ey]at j;split at j
  ·rename_i e k l' k' c' H T hc
   split at j
   ·rename_i z hz
    cases hb:bD z.length (bQ P e)with
    |false=>rw[hb]at j;exact j.elim
    |true=>
     rw[hb]at j;obtain⟨⟨h0,V,U,h3⟩,j⟩:=j;simp only[execOp,A T,A hc];exact Wv.out ⟨_,_,EI H hz (aQ hb) h0 V U h3,dV _ _,j⟩
   ·exact j.elim
  ·exact j.elim
 |convert s d x=>
  simp only[Ey]at j;split at j
  ·rename_i e v Q hd hx
   cases hu:KD P e with
   |false=>rw[hu]at j;exact j.elim
   |true=>
    rw[hu]at j;obtain⟨c,hc,J⟩:=NI (w:=w) (s:=v) Q hd (Dn hu);simp only[execOp,A hx];exact Wv.out ⟨_,_,J,⟨rfl,rfl,rfl⟩,j c hc⟩
  ·exact j.elim
 |range t x=>
  simp only[Ey]at j;split at j
  ·rename_i k e m hu hx
   obtain⟨O,hm,j⟩:=j;simp only[execOp,A hx];exact Wv.out ⟨_,_,M5 hu hm,dV _ _,j⟩
  ·exact j.elim
 |next it isS=>
  cases isS with
  |true=>simp only[Ey]at j
  |false=>
   simp only[Ey]at j;split at j
   ·rename_i v hv
    simp only[execOp,A hv];exact Wv.out (Hw j)
   ·exact j.elim
 |call c=>
  simp only[Ey]at j;have L:∀{b:Builtin} {vs:List Value},c.callee=.builtin b→mJ r c.args.toList=some vs→∃cs:Array Bool,∀w,(execOp a.eval ⟨W,.call c,type,pos,E,D⟩).run P w=
    (builtin b c.argTypes type cs vs.toArray).run P w:=by
   intro b vs hc p;refine⟨c.args.map fun| .const _=>true|_=>false,fun w=>?_⟩
   simp[execOp,resolve,hc,G.args p,invoke];rfl
  have I:∀{s s':Sem Next},(∀w,s.run P w=s'.run P w)→IM P s' K w→IM P s K w:=by
   intro s s' C h;unfold IM at h⊢;simp only[C];exact h
  split at j
  ·rename_i s x hc p
   split at j
   ·rename_i t u hat
    obtain⟨cs,F⟩:=L hc p;refine I F ?_;have q:c.argTypes= #[t,u]:=by apply cD;rw[hat]
    simp only[builtin,q];split at j
    ·rename_i e' hu;exact Wv.out (xy (.inl ⟨e',hu⟩) j)
    ·rename_i hu;exact Wv.out (xy (.inr hu) j)
    ·rename_i k0 hu;exact Wv.out (CN hu j)
    ·exact j.elim
   ·exact j.elim
  ·rename_i x hc p
   split at j
   ·rename_i t hat
    obtain⟨cs,F⟩:=L hc p;refine I F ?_;have q:c.argTypes= #[t]:=by apply cD;rw[hat]
    simp only[builtin,q];exact Wv.out (F8 j)
   ·exact j.elim
  ·rename_i s x hc p
   split at j
   ·rename_i t u hat
    obtain⟨cs,F⟩:=L hc p;refine I F ?_;have q:c.argTypes= #[t,u]:=by apply cD;rw[hat]
    simp only[builtin,q];exact Wv.out (Hx j)
   ·exact j.elim
  ·rename_i m k hc p
   split at j
   ·rename_i t u hat
    obtain⟨cs,F⟩:=L hc p;refine I F ?_;simp only[builtin];exact Wv.out (CL (by rw[←aZ,hat];rfl) j)
   ·exact j.elim
  ·rename_i f args hc p
   unfold RU at j;split at j
   ·exact j.elim
   ·rename_i ks hks
    split at j
    ·rename_i f
     refine I (s':=callFunc f args.toArray) (fun w=>?_) j.out
     simp[execOp,resolve,hc,G.args p,Act.eval,Deferred.ofValue,invoke]
    ·rename_i f hf
     split at j
     ·rename_i fv hfv
      rcases j.run with⟨g,first,cap,rfl,X⟩|⟨l,rfl,X⟩
      rotate_left
      ·obtain⟨fn,tmps,assign,body,V,U⟩:=X.run w rfl
       refine .inr (.inr (.inr ⟨l,fn,tmps,assign,body,?_,fun c cs=>?_⟩))
       ·rw[←V]
        simp[execOp,resolve,hc,G.args p,A hfv,Deferred.ofValue,invoke]
       ·obtain⟨b,Y,H,B,Q⟩:=U c cs
        refine⟨b,Y,H,?_,Q⟩;obtain⟨t,e,B⟩:=rr B;have T:ks.length=1:=by rw[←se ks t,←e];rfl
        match ks,T,t,e,B with
        | [k],_,t,e,B=>rw[←e]at B;exact B
      refine I (s':=callFunc g (first.toList++args++cap.toList).toArray) (fun w=>?_) X.out
      have e:first++args.toArray++cap=(first.toList++args++cap.toList).toArray:=by apply cD;simp
      rw[←e];simp[execOp,resolve,hc,G.args p,A hfv,Deferred.ofValue,invoke]
     ·exact j.elim
  ·exact j.elim
 |_=>simp only[Ey]at j
end Go.Lift
