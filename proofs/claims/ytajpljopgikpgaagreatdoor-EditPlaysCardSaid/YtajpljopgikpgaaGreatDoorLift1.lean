/- A part of the proof that the named laws of this program answer true, whatever the input. -/
import Derived.Test.YtajpljopgikpgaaGreatDoorLift0
import Derived.Laws.Append
import Derived.Laws.Cover3
import Derived.Laws.StructEq
import Derived.Laws.BytesString
import Derived.Lib.ConvBytes
open Array renaming ext'→dG,getElem?_toList→bR,mem_of_getElem?→qS,mem_filter→rz
open Bool renaming and_eq_true→bT,false_eq_true→dX
open ByteArray renaming data_extract→qK
open List renaming extract_eq_take_drop→ij,map_cons→cG,map_map→tQ,take_of_length_le→bJ,length_cons→aH,cons_append→dB,replicate→eD,length_eq_zero_iff→aO,getElem?_eq_getElem→ag
open Nat renaming beq→bX,add_assoc→mB,ble→An,eq_of_beq_eq_true→bC,le_of_ble_eq_true→j5,add_zero→dd,zero_add→aU,le_add_right→rv,min→eN
open Option renaming some→bQ,isSome_iff_exists→eI,map_some→hO
open Prod renaming mk→rP
open UInt8 renaming ofNat→gF
namespace Go.Lift
open Go
def W8(S:Option (af→Prop))(h:af):Prop:=match S with|none=>True|some f=>f h
def Yv(P:Program)(s:Sem Value)(K:RK)(h:af):Prop:=∃v S,K v S∧W8 S h∧∀w:World,W8 S w.heap→s.run P w=.ok v w
theorem Yv.of_pure{P:Program}{s:Sem Value}{K:RK}{h:af}{v:Value}(a:K v none)(b:∀w:World,s.run P w=.ok v w):Yv P s K h:=
 ⟨v,none,a,trivial,fun w _=>b w⟩
variable {P:Program}
theorem y7{t:TypeId}{f:Nat}{u:TypeId}{off:Nat}(h:y8 P t f=some (u,off)):
  ∃fs g,P.underlying t=some (.struct fs)∧fs[f]? =some g∧g.type=u∧g.offset=off:=by
 unfold y8 at h;split at h
 ·rename_i fs hu
  split at h
  ·rename_i g hg
   simp only[bQ.injEq,rP.injEq]at h;exact⟨fs,g,hu,by simpa using hg,h.1,h.2⟩
  ·cases h
 ·cases h
theorem Bj{t:TypeId}(h:bX (cy P t) 0=false)(w:World):(sizeOf t).run P w=.ok (cy P t) w:=by
 unfold cy at h⊢;cases hi:P.info? t with
 |none=>rw[hi]at h;cases h
 |some i=>simp[sizeOf,dy hi]
theorem FZ{t:TypeId}{f:Nat}{u:TypeId}{off:Nat}{a:Addr}{K:RK}{h:af}(i:y8 P t f=some (u,off))
  (b:bif bX (cy P u) 0 then False else K (.pointer (some (adr a off))) none):Yv P (Instr.fieldAt t (.pointer (some a)) f) K h:=by
 obtain⟨k,g,d,j,rfl,rfl⟩:=y7 i;cases hz:bX (cy P g.type) 0 with
 |true=>rw[hz]at b;exact b.elim
 |false=>
  rw[hz]at b;refine .of_pure b fun w=>?_
  have c:cy P g.type≠0:=fun e=>by rw[e]at hz;cases hz
  simp only[Instr.fieldAt,Sem.run_bind,aJ d,Result.andThen_ok,j,Instr.sureAddr,Sem.run_pure,fieldPlace,Bj hz];simp[c,wn]
theorem xY{t:TypeId}{i:TypeInfo}(_:P.info? t=some i)(a:∃d,P.underlying t=some d)(w:World):(isAgg t).run P w=.ok (xZ P t) w:=by
 obtain⟨d,hd⟩:=a;simp only[isAgg,Sem.run_bind,aJ hd,Result.andThen_ok];unfold xZ;rw[hd];cases d<;>rfl
theorem Cv{c:BinOp}{k k':IntKind}{a b:Int}{K:RK}{h:af}(g:c=.shl∨c=.shr)(hv:PA c k a b K):Yv P (Op.shift c k a k' b) K h:=by
 rcases g with rfl|rfl
 ·obtain⟨f,d⟩:=hv
  refine .of_pure d fun w=>?_
  simp[Op.shift,Int.not_lt.2 f]
 ·obtain⟨f,d⟩:=hv
  refine .of_pure d fun w=>?_
  simp[Op.shift,Int.not_lt.2 f]
theorem Qm{c:BinOp}{k:IntKind}{a b:Int}{K:RK}{h:af}(hv:ZN c k a b K)(g:c≠ .shl∧c≠ .shr):Yv P (binOp c 0 (.int k a) (.int k b)) K h:=by
 cases c<;>simp only[ZN]at hv
 case quo=>obtain⟨f,d⟩:=hv;exact .of_pure d fun w=>by simp[binOp,Op.intDiv,f]
 case rem=>obtain⟨f,d⟩:=hv;exact .of_pure d fun w=>by simp[binOp,Op.intDiv,f]
 all_goals exact .of_pure hv fun w=>by simp[binOp,Op.intArith,Op.intBits,Op.intCmp]
theorem H8(c:BinOp)(t:TypeId)(k k':IntKind)(a b:Int):binOp c t (.int k a) (.int k' b)=binOp c 0 (.int k a) (.int k' b):=by
 cases c<;>rfl
theorem Pv{c:BinOp}{t:TypeId}{a b:ByteArray}{K:RK}{h:af}(hv:Zq c a b K):Yv P (binOp c t (.string a) (.string b)) K h:=by
 cases c<;>simp only[Zq]at hv
 case add=>
  obtain⟨f,d⟩:=hv;refine .of_pure d fun w=>?_
  have:¬(((a.size+b.size:Nat):Int)>IntKind.i64.max):=by
   have:IntKind.i64.max=9223372036854775807:=by decide
   omega
  simp only[binOp,Op.stringOp,if_neg this,Sem.run_pure]
 all_goals exact .of_pure hv fun w=>by simp[binOp,Op.stringOp]
theorem r7{t:TypeId}{x y:Value}{b:Bool}{w:World}(h:∀d,(Op.equalIn (d+1) t x y).run P w=.ok b w):(Op.equal t x y).run P w=.ok b w:=h 9999
theorem HP{t:TypeId}{e:TypeId}(b:P.underlying t=some (.pointer e))(a:Option Addr)(w:World):(Op.equal t (.pointer a) (.pointer none)).run P w=.ok a.isNone w:=by
 refine r7 fun d=>?_
 simp only[Op.equalIn,Sem.run_bind,aJ b,Result.andThen_ok];cases a<;>rfl
theorem Qz(f:BinOp)(t:TypeId)(x y:Operand)(a b:Value)(h:∀c d,a=.agg c→b=.agg d→False)(hi:a=.nilIface→b=.nilIface→False)(w:World):
  (eqGuard f t x y a b).run P w=.ok () w:=by
 cases f;case eql=>cases a<;>cases b<;>first|rfl|exact(hi rfl rfl).elim|exact(h _ _ rfl rfl).elim
 case neq=>cases a<;>cases b<;>first|rfl|exact(hi rfl rfl).elim|exact(h _ _ rfl rfl).elim
 all_goals rfl
theorem Uk(t:TypeId)(x y:Value)(hx:∀k a,x≠ .int k a)(c:∀s,x≠ .string s)(d:∀k a,x≠ .float k a)(hc:∀k a b,x≠ .complex k a b):binOp .eql t x y=(do pure (.bool (←Op.equal t x y))):=by
 cases x<;>first|rfl|exact absurd rfl (hx _ _)|exact absurd rfl (c _)|exact absurd rfl (d _ _)|exact absurd rfl (hc _ _ _)
theorem Uj(t:TypeId)(x y:Value)(hx:∀k a,x≠ .int k a)(c:∀s,x≠ .string s)(d:∀k a,x≠ .float k a)(hc:∀k a b,x≠ .complex k a b):binOp .neq t x y=(do pure (.bool (!(←Op.equal t x y)))):=by
 cases x<;>first|rfl|exact absurd rfl (hx _ _)|exact absurd rfl (c _)|exact absurd rfl (d _ _)|exact absurd rfl (hc _ _ _)
theorem sd{t:TypeId}{neg:Bool}{x y:Value}{b:Bool}{w:World}(c:(Op.equal t x y).run P w=.ok b w)
  (hx:∀k a,x≠ .int k a)(f:∀s,x≠ .string s)(d:∀k a,x≠ .float k a)(hc:∀k a b,x≠ .complex k a b):
  (binOp (bif neg then .neq else .eql) t x y).run P w=.ok (.bool (bif neg then !b else b)) w:=by
 cases neg
 ·simp only[cond_false,Uk t x y hx f d hc,Sem.run_bind,c,Result.andThen_ok,Sem.run_pure]
 ·simp only[cond_true,Uj t x y hx f d hc,Sem.run_bind,c,Result.andThen_ok,Sem.run_pure]
theorem Hp{t:TypeId}{neg:Bool}{x y:Value}{K:RK}{h:af}(hv:Yb P t neg x y K):
  (∀c d,x=.agg c→y=.agg d→False)∧(x=.nilIface→y=.nilIface→False)∧Yv P (binOp (bif neg then .neq else .eql) t x y) K h:=by
 unfold Yb at hv;split at hv
 ·rename_i e a hu
  refine⟨nofun,nofun,.of_pure hv fun w=>?_⟩
  exact sd (HP hu a w) nofun nofun nofun nofun
 ·rename_i k e a hu
  refine⟨nofun,nofun,.of_pure hv fun w=>?_⟩
  refine sd ?_ nofun nofun nofun nofun;refine r7 fun d=>?_
  simp only[Op.equalIn,Sem.run_bind,aJ hu,Result.andThen_ok];cases a<;>rfl
 ·rename_i e a _ _ _ _ hu
  refine⟨nofun,nofun,.of_pure hv fun w=>?_⟩
  refine sd ?_ nofun nofun nofun nofun;refine r7 fun d=>?_
  simp only[Op.equalIn,Sem.run_bind,aJ hu,Result.andThen_ok];cases a<;>rfl
 ·exact hv.elim
theorem yQ{w:World}{a b:Addr}(f:fA w.heap a)(d:fA w.heap b):(sameAddr a b).run P w=.ok (a==b) w:=by
 obtain⟨g,s,f,u⟩:=f;obtain⟨cb,eb,d,sb⟩:=d;by_cases c:a.block=b.block
 ·simp[sameAddr,c]
 ·have i:(a==b)=false:=by
   rw[beq_eq_false_iff_ne];intro e;exact c (by rw[e])
  have s1:w.shape? a.block=some (s,g.size):=by simp[World.shape?,f]
  have s2:w.shape? b.block=some (eb,cb.size):=by simp[World.shape?,d]
  have p:∀n,w.frozen? ({block:=a.block,off:=n}:Addr)=false:=fun n=>by simp[World.frozen?,f]
  have q:∀n,w.frozen? ({block:=b.block,off:=n}:Addr)=false:=fun n=>by simp[World.frozen?,d]
  have j:w.frozen? a=false:=by simp[World.frozen?,f]
  have k:w.frozen? b=false:=by simp[World.frozen?,d]
  obtain⟨m,hm⟩:∃m,g.size=m+1:=⟨g.size-1,by omega⟩
  obtain⟨n,o⟩:∃n,cb.size=n+1:=⟨cb.size-1,by omega⟩
  simp[sameAddr,c,noView,viewAt,mayBeOne,stringish,s1,s2,p,q,j,k,hm,o,i]
theorem Ev{t:TypeId}{neg:Bool}{x y:Value}{K:RK}{h:af}(hv:Y1 P t neg x y K h):
  (∀c d,x=.agg c→y=.agg d→False)∧(x=.nilIface→y=.nilIface→False)∧Yv P (binOp (bif neg then .neq else .eql) t x y) K h:=by
 unfold Y1 at hv;split at hv
 ·rename_i a b hu
  refine⟨nofun,nofun,.of_pure hv fun w=>?_⟩
  refine sd ?_ nofun nofun nofun nofun;refine r7 fun d=>?_
  simp only[Op.equalIn,Sem.run_bind,aJ hu,Result.andThen_ok,Sem.run_pure]
 ·rename_i e a b hu
  obtain⟨hz,j,i⟩:=hv;refine⟨nofun,nofun,_,_,i,j,fun w n=>?_⟩
  refine sd ?_ nofun nofun nofun nofun;have f:bX (cy P e) 0=false:=by
   cases hb:bX (cy P e) 0 with
   |false=>rfl
   |true=>rw[hb]at hz;exact hz.elim
  have g:cy P e≠0:=fun e=>by rw[e]at f;cases f
  refine r7 fun d=>?_
  simp only[Op.equalIn,Sem.run_bind,aJ hu,Result.andThen_ok];cases a with
  |none=>cases b<;>rfl
  |some a=>cases b with
   |none=>rfl
   |some b=>
    obtain⟨m,k⟩:=n a b rfl rfl;simp only[Sem.run_bind,Bj f,Result.andThen_ok,ne_eq,g,not_false_eq_true,if_true,yQ m k];rfl
 ·exact hv.elim
theorem PV{f:BinOp}{t:TypeId}{x y:Value}{K:RK}{h:af}(hv:Zz P f t x y K h):
  (∀c d,x=.agg c→y=.agg d→False)∧(x=.nilIface→y=.nilIface→False)∧Yv P (binOp f t x y) K h:=by
 unfold Zz at hv;split at hv
 ·rename_i k a k' b
  refine⟨nofun,nofun,?_⟩;rw[H8];split at hv
  ·exact Cv (k':=k') (.inl rfl) hv
  ·exact Cv (k':=k') (.inr rfl) hv
  ·rename_i h1 h2
   cases hk:L7 k' k with
   |false=>rw[hk]at hv;exact hv.elim
   |true=>rw[hk]at hv;have:=CQ hk;subst this;exact Qm hv ⟨h1,h2⟩
 ·exact⟨nofun,nofun,Pv hv⟩
 ·split at hv
  ·exact Ev (neg:=false) hv
  ·exact Ev (neg:=true) hv
  ·exact hv.elim
theorem NR{u:TypeId}{cs:List Value}{off:Nat}(a:((P.underlying u).isSome&&(P.info? u).isSome)=true){w:World}(c:xZ P u=true):
  (part u cs.toArray off).run P w=.ok (.agg ((cs.drop off).take (cy P u)).toArray) w:=by
 simp only[bT,eI]at a;obtain⟨a,i,hi⟩:=a;have b:(sizeOf u).run P w=.ok (cy P u) w:=by simp[sizeOf,dy hi,cy,hi]
 simp only[part,Sem.run_bind,xY hi a,Result.andThen_ok,c,if_true,b,Sem.run_pure];congr 2
 apply dG;simp[ij]
theorem Ks{u:TypeId}{cs:List Value}{off:Nat}(a:((P.underlying u).isSome&&(P.info? u).isSome)=true){w:World}(c:xZ P u=false){v:Value}(hc:cs[off]? =some v):
  (part u cs.toArray off).run P w=.ok v w:=by
 simp only[bT,eI]at a;obtain⟨a,i,hi⟩:=a;have b:cs.toArray[off]? =some v:=by simpa using hc
 simp only[part,Sem.run_bind,xY hi a,Result.andThen_ok,c,dX,if_false,b,Sem.run_pure]
theorem Bp{h:af}:∀{l m:List (Option Addr×Option Addr)},tY h (l++m)→tY h l∧tY h m
 | [],_,h=>⟨trivial,h⟩
 |(_,_)::_,_,h=>⟨⟨h.1,(Bp h.2).1⟩,(Bp h.2).2⟩
theorem Om{t:TypeId}{x y:Value}{b:Bool}{l:List (Option Addr×Option Addr)}(f:V9 P t x y=some (b,l)){w:World}(i:tY w.heap l)(d:Nat):
  (Op.equalIn (d+1) t x y).run P w=.ok b w:=by
 unfold V9 at f;split at f
 ·rename_i k0 k a k' c hu
  cases hk:L7 k' k with
  |false=>rw[hk]at f;cases f
  |true=>
   rw[hk]at f;have:=CQ hk;subst this;cases f;exact run_equalIn_int w d t _ _ _ _ hu
 ·rename_i a c hu
  cases f;exact run_equalIn_bool w d t _ _ hu
 ·rename_i a c hu
  cases f;exact run_equalIn_string w d t _ _ hu
 ·rename_i e a c hu
  cases hz:bX (cy P e) 0 with
  |true=>rw[hz]at f;cases f
  |false=>
   rw[hz]at f;cases f;have g:cy P e≠0:=fun e=>by rw[e]at hz;cases hz
   simp only[Op.equalIn,Sem.run_bind,aJ hu,Result.andThen_ok];cases a with
   |none=>cases c<;>rfl
   |some a=>cases c with
    |none=>rfl
    |some c=>
     obtain⟨m,j⟩:=i.1 a c rfl rfl;simp only[Sem.run_bind,Bj hz,Result.andThen_ok,ne_eq,g,not_false_eq_true,if_true,yQ m j];rfl
 ·cases f
theorem HQ{rec:TypeId→List Value→List Value→Option (Bool×List (Option Addr×Option Addr))}{d:Nat}{xs ys:List Value}{w:World}
  (g:∀t us vs b l,rec t us vs=some (b,l)→tY w.heap l→(Op.equalIn (d+1) t (.agg us.toArray) (.agg vs.toArray)).run P w=.ok b w):
  ∀(fs:List Field) (b:Bool) (l:List (Option Addr×Option Addr)),Yu P rec xs ys fs=some (b,l)→tY w.heap l→(Op.eqFields (d+1) xs.toArray ys.toArray fs).run P w=.ok b w
 | [],b,l,he,_=>by cases he;rfl
 |f::fs,b,l,he,hp=>by
  unfold Yu at he;split at he
  ·cases he
  ·rename_i hn
   cases hi:((P.underlying f.type).isSome&&(P.info? f.type).isSome)with
   |false=>rw[hi]at he;cases he
   |true=>
    rw[hi]at he;simp only[cond_true]at he;split at he
    ·rename_i b1 l1 c m e1 e2
     cases he;obtain⟨p1,o⟩:=Bp hp;have a:=HQ g fs c m e2 o;have k:∃u v,(part f.type xs.toArray f.offset).run P w=.ok u w∧(part f.type ys.toArray f.offset).run P w=.ok v w∧(Op.equalIn (d+1) f.type u v).run P w=.ok b1 w:=by
      cases ha:xZ P f.type with
      |true=>
       rw[ha]at e1;exact⟨_,_,NR hi ha,NR hi ha,g _ _ _ _ _ e1 p1⟩
      |false=>
       rw[ha]at e1;simp only[cond_false]at e1;split at e1
       ·rename_i x y hx hy
        exact⟨x,y,Ks hi ha hx,Ks hi ha hy,Om e1 p1 d⟩
       ·cases e1
     obtain⟨u,v,j,i,n⟩:=k;simp only[Op.eqFields,ne_eq,hn,not_false_eq_true,if_true,Sem.run_bind,j,i,n,Result.andThen_ok];cases b1
     ·rfl
     ·exact a
    ·cases he
theorem BF{w:World}:∀(m:Nat) (t:TypeId) (xs ys:List Value) (b:Bool) (l:List (Option Addr×Option Addr)),Wa P m t xs ys=some (b,l)→tY w.heap l→
  ∀d,(Op.equalIn (d+m+1) t (.agg xs.toArray) (.agg ys.toArray)).run P w=.ok b w
 |0,_,_,_,_,_,he,_,_=>by cases he
 |m+1,t,xs,ys,b,l,he,hp,d=>by
  unfold Wa at he;split at he
  ·rename_i fs hu
   cases hs:P.stoodInHeld t with
   |true=>rw[hs]at he;cases he
   |false=>
    rw[hs]at he;have a:P.fieldsOf t=fs:=by simp[Program.fieldsOf,hu]
    rw[run_equalIn_struct w _ t _ _ (by rw[a];exact hu) hs,a];exact HQ (d:=d+m) (fun t c vs b l g f=>BF m t c vs b l g f d) fs.toList b l he hp
  ·cases he
theorem KW{neg b:Bool}{K:RK}{h:af}{l:List (Option Addr×Option Addr)}(a:abM neg b K h l):∃S,K (.bool (bif neg then !b else b)) S∧W8 S h∧∀h',W8 S h'→tY h' l:=by
 cases l with
 |nil=>exact⟨none,a,trivial,fun _ _=>trivial⟩
 |cons p l=>exact⟨_,a.2,a.1,fun _ h=>h⟩
theorem PW{f:BinOp}{t:TypeId}{xs ys:Array Value}{x y:Operand}{K:RK}{h:af}(a:ZB P f t xs.toList ys.toList K h):
  ∃v S,K v S∧W8 S h∧∀w:World,W8 S w.heap→(do eqGuard f t x y (.agg xs) (.agg ys);binOp f t (.agg xs) (.agg ys):Sem Value).run P w=.ok v w:=by
 unfold ZB at a;cases hg:P.eqGuardType P.depth t with
 |true=>rw[hg]at a;exact a.elim
 |false=>
  rw[hg]at a;simp only[cond_false]at a;split at a
  ·split at a
   ·rename_i b l he
    obtain⟨S,c,g,d⟩:=KW a;refine⟨_,S,c,g,fun w i=>?_⟩
    have:=BF 10 t _ _ b l he (d _ i) 9989;simp only[Array.toArray_toList]at this;simp only[Sem.run_bind,run_eqGuard_agg w _ t x y _ _ hg,Result.andThen_ok,run_eql_struct,this];rfl
   ·exact a.elim
  ·split at a
   ·rename_i b l he
    obtain⟨S,c,g,d⟩:=KW a;refine⟨_,S,c,g,fun w i=>?_⟩
    have:=BF 10 t _ _ b l he (d _ i) 9989;simp only[Array.toArray_toList]at this;simp only[Sem.run_bind,run_eqGuard_agg w _ t x y _ _ hg,Result.andThen_ok,run_neq_struct,this];rfl
   ·exact a.elim
  ·exact a.elim
theorem Tu{a:UnOp}{x:Value}{K:RK}{h:af}(hv:abx a x K):Yv P (Op.unary a x) K h:=by
 unfold abx at hv;split at hv
 ·exact .of_pure hv fun w=>rfl
 ·exact .of_pure hv fun w=>rfl
 ·exact .of_pure hv fun w=>rfl
 ·exact hv.elim
theorem H4:∀(l:List UInt8) (s:ByteArray),(l.map fun b=>((b.toNat:Nat):Int)).foldl (fun r n=>r.push (gF n.toNat)) s=⟨s.data++l.toArray⟩
 | [],s=>by simp
 |b::l,s=>by
  simp only[cG,List.foldl_cons];rw[H4 l];congr 1
  have:gF ((b.toNat:Nat):Int).toNat=b:=by simp
  rw[this];apply dG;simp[ByteArray.push]
theorem HB{e:TypeId}(h:Qk P e=true):P.underlying e=some (.int .u8):=by
 unfold Qk at h;split at h
 ·assumption
 ·cases h
theorem Nx{w:World}{a:Addr}{vs:List Value}(b:Row w.heap a vs):(loadCells a vs.length).run P w=.ok vs.toArray w:=by
 have:=run_firstCells_some (P:=P) w 1 vs.length a 0 0 vs (by simp) fun j v hv=>by rw[←wn];exact b j v hv
 simpa[Builtin.firstCells]using this
theorem NH{g f:TypeId}{x:Value}{K:RK}{h:af}(hv:VA P g f x K h):Yv P (convert g f x) K h:=by
 unfold VA at hv;split at hv
 ·rename_i k k' k'' n h1 h2
  exact .of_pure hv fun w=>by simp only[convert,Sem.run_bind,aJ h1,aJ h2,Result.andThen_ok];rfl
 ·rename_i s h1 h2
  exact .of_pure hv fun w=>by simp only[convert,Sem.run_bind,aJ h1,aJ h2,Result.andThen_ok];rfl
 ·rename_i e a n c h1 h2
  cases hu:Qk P e with
  |false=>rw[hu]at hv;exact hv.elim
  |true=>
   rw[hu]at hv;obtain⟨s,z,y⟩:=hv;refine⟨_,_,y,z,fun w m=>?_⟩
   rw[run_convert_bytes_string w g f e a n c h1 (HB hu) h2];obtain⟨o,m⟩:=m;rcases m with p|⟨b,rfl,q⟩
   ·have j:s=ByteArray.empty:=by
     have:s.data.toList= []:=by simpa[eC]using p
     cases s with
     |mk d=>simp at this;subst this;rfl
    cases a with
    |none=>rw[j];rfl
    |some b=>
     have u:n=0:=by rw[←o,p];rfl
     subst u;have:=Nx (P:=P) (w:=w) (a:=b) (vs:= []) fun i v hv=>by simp at hv
     rw[run_bytesToString w b 0 c [] (by simpa using this),j];rfl
   ·have:=Nx (P:=P) q
    rw[o]at this;rw[run_bytesToString w b n c (s.data.toList.map fun b=>((b.toNat:Nat):Int)) (by rw[this,tQ];rfl),H4]
    cases s;simp[ByteArray.empty,ByteArray.emptyWithCapacity];try rfl
 ·exact hv.elim
theorem P5{u:TypeId}{cs:Array Value}{off:Nat}{K:RK}{h:af}(b:∃d,P.underlying u=some d)(hi:∃i,P.info? u=some i)
  (hv:bif xZ P u then K (.agg ((cs.toList.drop off).take (cy P u)).toArray) none else(match cs.toList[off]? with|some v=>K v none|none=>False)):Yv P (part u cs off) K h:=by
 obtain⟨i,hi⟩:=hi;cases ha:xZ P u with
 |true=>
  rw[ha]at hv;refine .of_pure hv fun w=>?_
  have c:(sizeOf u).run P w=.ok (cy P u) w:=by simp[sizeOf,dy hi,cy,hi]
  simp only[part,Sem.run_bind,xY hi b,Result.andThen_ok,ha,if_true,c,Sem.run_pure];congr 2
  apply dG;simp[ij]
 |false=>
  rw[ha]at hv;simp only[cond_false]at hv;cases hc:cs.toList[off]? with
  |none=>rw[hc]at hv;exact hv.elim
  |some v=>
   rw[hc]at hv;refine .of_pure hv fun w=>?_
   have a:cs[off]? =some v:=by simpa using hc
   simp only[part,Sem.run_bind,xY hi b,Result.andThen_ok,ha,dX,if_false,a,Sem.run_pure]
def yE(P:Program)(v:Option Value)(d y n:Nat):Prop:=
 match v with
 |some x=>∀c w,(Instr.sliceBound x y c).run P w=.ok n w
 |none=>n=d
theorem nY{v:Option Value}{d y:Nat}{K:Nat→Prop}(hv:WU v d y K):∃n,K n∧yE P v d y n:=by
 unfold WU at hv;split at hv
 ·exact⟨d,hv,rfl⟩
 ·rename_i k i
  obtain⟨⟨b,f⟩,a⟩:=hv;refine⟨i.toNat,a,fun c w=>?_⟩
  simp[Instr.sliceBound,asIntOf,b,f]
 ·exact hv.elim
theorem qU{c:Bool}{len cap n l:Nat}{lo hi:Option Value}(a:yE P hi len cap n)(b:yE P lo 0 n l)(w:World):
  (Instr.sliceBounds c len cap lo hi none).run P w=.ok (l,n,cap) w:=by
 cases hi with
 |none=>
  cases lo with
  |none=>simp only[yE]at a b;subst a;subst b;simp[Instr.sliceBounds]
  |some lo=>simp only[yE]at a b;subst a;simp[Instr.sliceBounds,b]
 |some hi=>
  cases lo with
  |none=>simp only[yE]at a b;subst b;simp[Instr.sliceBounds,a]
  |some lo=>simp only[yE]at a b;simp[Instr.sliceBounds,a,b]
theorem D3{c:Bool}{len cap n l m:Nat}{lo:Option Value}{hi d:Value}(hm:yE P (some d) 0 cap m)(a:yE P (some hi) 0 m n)(b:yE P lo 0 n l)(w:World):
  (Instr.sliceBounds c len cap lo (some hi) (some d)).run P w=.ok (l,n,m) w:=by
 cases lo with
 |none=>simp only[yE]at hm a b;subst b;simp[Instr.sliceBounds,hm,a]
 |some lo=>simp only[yE]at hm a b;simp[Instr.sliceBounds,hm,a,b]
theorem Bg(a:Option Addr)(l m size:Nat):(if m=l then a else a.map (·.add (l*size)))=bq a l m size:=by
 unfold bq;split
 ·rfl
 ·congr 1;funext x;rw[wn]
theorem qY{t:TypeId}{K:Prop}(h:VJ P t K):K∧∀w,(sizeOf t).run P w=.ok (cy P t) w:=by
 unfold VJ at h;cases hi:P.info? t with
 |none=>rw[hi]at h;exact h.elim
 |some i=>rw[hi]at h;exact⟨h,fun w=>by simp[sizeOf,dy hi,cy,hi]⟩
theorem LQ{t:TypeId}{x:Value}{f:Nat}{K:RK}{h:af}(hv:PS P t x f K):Yv P (Instr.field t x f) K h:=by
 unfold PS at hv;split at hv
 ·rename_i u off cs hf
  obtain⟨k,g,c,i,rfl,rfl⟩:=y7 hf;cases hb:((P.underlying g.type).isSome&&(P.info? g.type).isSome)with
  |false=>rw[hb]at hv;exact hv.elim
  |true=>
   rw[hb]at hv;simp only[bT,eI]at hb;obtain⟨v,S,d,b,a⟩:=P5 (cs:=cs) (off:=g.offset) (h:=h) hb.1 hb.2 hv;refine⟨v,S,d,b,fun w j=>?_⟩
   have:=a w j;simp only[Instr.field,Sem.run_bind,aJ c,Result.andThen_ok,i,asAgg,Sem.run_pure,this]
 ·exact hv.elim
theorem Eb{t:TypeId}{x i:Value}{K:RK}{h:af}(hv:Bo P t x i K):Yv P (Instr.indexAt t x i) K h:=by
 unfold Bo at hv;split at hv
 ·rename_i n e a k i hu
  obtain⟨⟨⟨d,f⟩,c⟩,hz⟩:=qY hv;refine .of_pure c fun w=>?_
  simp[Instr.indexAt,asIntOf,aJ hu,Instr.sureAddr,d,f,hz,wn]
 ·rename_i e b len cap k i hu
  obtain⟨⟨⟨d,f⟩,a,rfl,c⟩,hz⟩:=qY hv;refine .of_pure c fun w=>?_
  simp[Instr.indexAt,asIntOf,aJ hu,d,f,hz,wn]
 ·exact hv.elim
theorem LP{t:TypeId}{x i:Value}{K:RK}{h:af}(hv:PR P t x i K):Yv P (Instr.index t x i) K h:=by
 unfold PR at hv;split at hv
 ·rename_i s k i hu
  obtain⟨b,d,c,a⟩:=hv;refine .of_pure a fun w=>?_
  simp[Instr.index,asIntOf,aJ hu,d,c]
 ·exact hv.elim
theorem LN{t:TypeId}{x:Value}{lo hi d:Option Value}{K:RK}{h:af}(hv:PP P t x lo hi d K):Yv P (Instr.sliceAt t x lo hi d) K h:=by
 unfold PP at hv;split at hv
 ·rename_i s hu
  cases d with
  |some _=>exact hv.elim
  |none=>
   obtain⟨n,hv,b⟩:=nY (P:=P) hv;obtain⟨l,hv,c⟩:=nY (P:=P) hv;refine .of_pure hv fun w=>?_
   simp[Instr.sliceAt,Instr.slice,aJ hu,qU b c]
 ·rename_i e a len cap hu
  obtain⟨hv,hz⟩:=qY hv;cases d with
  |none=>
   obtain⟨n,hv,b⟩:=nY (P:=P) hv;obtain⟨l,hv,c⟩:=nY (P:=P) hv;refine .of_pure hv fun w=>?_
   simp[Instr.sliceAt,Instr.slice,aJ hu,qU b c,hz,Bg]
  |some m=>
   cases hi with
   |none=>exact hv.elim
   |some hi=>
    obtain⟨g,hv,hm⟩:=nY (P:=P) hv;obtain⟨n,hv,b⟩:=nY (P:=P) hv;obtain⟨l,hv,c⟩:=nY (P:=P) hv;refine .of_pure hv fun w=>?_
    simp[Instr.sliceAt,Instr.slice,aJ hu,D3 hm b c,hz,Bg]
 ·rename_i n e a hu
  obtain⟨hv,hz⟩:=qY hv;cases d with
  |some _=>exact hv.elim
  |none=>
   obtain⟨m,hv,b⟩:=nY (P:=P) hv;obtain⟨l,hv,c⟩:=nY (P:=P) hv;refine .of_pure hv fun w=>?_
   have f:(some (if n=l then a else a.add (l*cy P e)))=bq (some a) l n (cy P e):=by
    rw[←Bg];split<;>rfl
   simp[Instr.sliceAt,aJ hu,Instr.sureAddr,qU b c,hz,f]
 ·exact hv.elim
def qs(d:TypeDesc)(c:CK):Prop:=(∃i,d=.int i∧c=.int i)∨(d=.string∧c=.str)∨(d=.bool∧c=.bool)
theorem yY{t:TypeId}{c:CK}{e:TypeId}(h:N5 P t=some (c,e)):∃k d,P.underlying t=some (.map k e)∧P.underlying k=some d∧qs d c:=by
 unfold N5 at h;split at h
 ·rename_i k e' hu
  split at h
  ·rename_i i hk
   simp only[bQ.injEq,rP.injEq]at h;obtain⟨rfl,rfl⟩:=h;exact⟨k,_,hu,hk,.inl ⟨i,rfl,rfl⟩⟩
  ·rename_i hk
   simp only[bQ.injEq,rP.injEq]at h;obtain⟨rfl,rfl⟩:=h;exact⟨k,_,hu,hk,.inr (.inl ⟨rfl,rfl⟩)⟩
  ·rename_i hk
   simp only[bQ.injEq,rP.injEq]at h;obtain⟨rfl,rfl⟩:=h;exact⟨k,_,hu,hk,.inr (.inr ⟨rfl,rfl⟩)⟩
  ·cases h
 ·cases h
theorem E6{d:TypeDesc}{c:CK}(hd:qs d c)(x y:c.den):Instr.sameNow d (c.enc x) (c.enc y)=some (iW (c.enc x) (c.enc y)):=by
 rcases hd with⟨i,rfl,rfl⟩|⟨rfl,rfl⟩|⟨rfl,rfl⟩
 ·simp[Instr.sameNow,CK.enc,iW]
 ·simp[Instr.sameNow,CK.enc,iW]
 ·simp[Instr.sameNow,CK.enc,iW]
theorem Fm{d:TypeDesc}{c:CK}(hd:qs d c)(x:c.den):∀(es:List MapEntry) (i:Nat),HA c es→
  ∃r,Instr.findNow d (c.enc x) es i=some r∧r.map (·.2)=Ol (c.enc x) es
 | [],i,_=>⟨none,rfl,rfl⟩
 |e::es,i,h=>by
  obtain⟨y,f⟩:=h e (by simp);have b:=E6 hd x y;rw[←f]at b;simp only[Instr.findNow,Ol];cases hb:iW (c.enc x) e.key with
  |true=>rw[b,hb];exact⟨some (i,e.val),rfl,rfl⟩
  |false=>rw[b,hb];exact Fm hd x es (i+1) fun e' a=>h e' (by simp[a])
theorem OB{a:Bool}{k:TypeId}{d:TypeDesc}{c:CK}(hd:qs d c)(b:P.underlying k=some d)(v:Value)(n:Nat)(w:World):(Instr.checkKey a (n+1) k v).run P w=.ok () w:=by
 unfold Instr.checkKey;simp only[Sem.run_bind,aJ b,Result.andThen_ok];rcases hd with⟨i,rfl,rfl⟩|⟨rfl,rfl⟩|⟨rfl,rfl⟩<;>rfl
theorem xD{k:TypeId}{d:TypeDesc}{c:CK}(hd:qs d c)(b:P.underlying k=some d)(x:c.den){es:List MapEntry}(h:HA c es)(w:World):
  ∃r,(Instr.findKey k (c.enc x) es).run P w=.ok r w∧Instr.findNow d (c.enc x) es 0=some r∧r.map (·.2)=Ol (c.enc x) es:=by
 obtain⟨r,a,hm⟩:=Fm hd x es 0 h;refine⟨r,?_,a,hm⟩;simp only[Instr.findKey,Sem.run_bind,aJ b,Result.andThen_ok,a,Sem.run_pure]
theorem na{w:World}{r:Nat}{es:Array MapEntry}{a:Nat}(h:w.heap[r]? =some (.map es a)):(getObj r).run P w=.ok (.map es a) w:=by
 simp only[getObj,Sem.run,h]
theorem oO{a:Bool}{k:TypeId}{d:TypeDesc}{c:CK}(hd:qs d c)(b:P.underlying k=some d)(v:Value)(w:World):(Instr.checkKey a 10000 k v).run P w=.ok () w:=
 OB hd b v 9999 w
theorem Qa{t:TypeId}{c:CK}{e k:TypeId}{d:TypeDesc}(o:P.underlying t=some (.map k e))(f:P.underlying k=some d)(hd:qs d c){m:Option Nat}{x:c.den}{z v:Value}{b ok:Bool}{w:World}
  (hz:(zeroValue e).run P w=.ok z w)(hm:QU c z w.heap m (c.enc x) v b):
  (Instr.lookup t (.map m) (c.enc x) ok).run P w=.ok (bif ok then .tuple #[v,.bool b]else v) w:=by
 cases m with
 |none=>
  obtain⟨rfl,rfl⟩:=hm;simp only[Instr.lookup,Sem.run_bind,aJ o,Result.andThen_ok,Sem.run_pure,oO hd f];obtain⟨r,n,i,a⟩:=xD (P:=P) hd f x (es:= []) (fun _ h=>by cases h) w
  simp only[Instr.findNow,bQ.injEq]at i;subst i;simp[n,hz]
 |some r=>
  obtain⟨es,g,p,j,hv⟩:=hm;simp only[Instr.lookup,Sem.run_bind,aJ o,Result.andThen_ok,na p,Sem.run_pure,oO hd f];obtain⟨r,n,i,a⟩:=xD (P:=P) hd f x j w;simp only[n,Result.andThen_ok];cases r with
  |none=>
   simp only[Option.map_none]at a;rw[←a]at hv;obtain⟨rfl,rfl⟩:=hv;simp[hz]
  |some r=>
   simp only[hO]at a;rw[←a]at hv;obtain⟨rfl,rfl⟩:=hv;cases ok<;>rfl
theorem fR{e:TypeId}{z:Value}(h:AB P e=some z)(w:World):(zeroValue e).run P w=.ok z w:=by
 unfold AB at h;cases hi:P.info? e with
 |none=>rw[hi]at h;cases h
 |some i=>rw[hi]at h;simp only at h;simp[zeroValue,dy hi,h]
theorem Jg{t:TypeId}{x k:Value}{ok:Bool}{K:RK}{h:af}(hv:LO P t x k ok K h):Yv P (Instr.lookup t x k ok) K h:=by
 unfold LO at hv;split at hv
 ·rename_i c e m hc
  obtain⟨n,d,a,f,hd⟩:=yY hc;obtain⟨j,rfl,hv⟩:=CK.dec_sound hv;split at hv
  ·rename_i ek z hek hz
   obtain⟨y,b,hm,i⟩:=hv;exact⟨_,_,i,hm,fun w g=>Qa a f hd (fR hz w) g⟩
  ·exact hv.elim
 ·exact hv.elim
theorem E8{w:World}{b cap s q:Nat}{buf:Array Value}{a t:Bool}(h:w.heap[b]? =some (.chan cap buf a s q t)):(getObj b).run P w=.ok (.chan cap buf a s q t) w:=by
 simp only[getObj,Sem.run,h]
theorem PQ{t:TypeId}{x:Value}{ats:Array TypeId}{ty:TypeId}{K:RK}{h:af}(a:ats[0]? =some t) (hv:Zx P t x K h):Yv P (Builtin.len_ ats ty #[x]) K h:=by
 unfold Zx at hv;split at hv
 ·rename_i s hu
  exact .of_pure hv fun w=>by simp[Builtin.len_,a,aJ hu,goInt]
 ·rename_i n e _ hu
  exact .of_pure hv fun w=>by simp[Builtin.len_,a,aJ hu,goInt]
 ·rename_i e b n c hu
  exact .of_pure hv fun w=>by simp[Builtin.len_,a,aJ hu,goInt]
 ·rename_i k e m hu
  obtain⟨n,hm,i⟩:=hv;refine⟨_,_,i,hm,fun w d=>?_⟩
  cases m with
  |none=>
   have:n=0:=d;subst this;simp[Builtin.len_,a,aJ hu,goInt]
  |some r=>
   obtain⟨es,g,f,rfl⟩:=d;simp[Builtin.len_,a,aJ hu,goInt,na f]
 ·rename_i k e m hu
  obtain⟨n,hm,i⟩:=hv;refine⟨_,_,i,hm,fun w d=>?_⟩
  cases m with
  |none=>
   have:n=0:=d;subst this;simp[Builtin.len_,a,aJ hu,goInt]
  |some r=>
   obtain⟨cap,buf,j,s,q,f,rfl⟩:=d;simp[Builtin.len_,a,aJ hu,goInt,E8 f]
 ·exact hv.elim
theorem PU{t:TypeId}{x:Value}{ats:Array TypeId}{ty:TypeId}{K:RK}{h:af}(a:ats[0]? =some t) (hv:Zy P t x K h):Yv P (Builtin.cap_ ats ty #[x]) K h:=by
 unfold Zy at hv;split at hv
 ·rename_i e b n c hu
  exact .of_pure hv fun w=>by simp[Builtin.cap_,a,aJ hu,goInt]
 ·rename_i k e m hu
  obtain⟨n,hm,g⟩:=hv;refine⟨_,_,g,hm,fun w d=>?_⟩
  cases m with
  |none=>
   have:n=0:=d;subst this;simp[Builtin.cap_,a,aJ hu,goInt]
  |some r=>
   obtain⟨cap,buf,i,s,q,f,rfl⟩:=d;simp[Builtin.cap_,a,aJ hu,goInt,E8 f]
 ·exact hv.elim
theorem CL{c:Bool}{k:IntKind}:∀{vs:List Value} {a:Int} {f:Value→Prop},L4 c k a vs f→∃v,f v∧∀w,(vs.foldlM (bif c then Builtin.max2 else Builtin.min2) (Value.int k a):Sem Value).run P w=.ok v w
 | [],a,f,h=>⟨_,h,fun w=>by simp⟩
 | .int k' b::vs,a,f,h=>by
  simp only[L4]at h;cases hk:L7 k' k with
  |false=>rw[hk]at h;exact h.elim
  |true=>
   rw[hk]at h;have:=CQ hk;subst this;obtain⟨v,g,d⟩:=CL h;refine⟨v,g,fun w=>?_⟩
   rw[←d w];cases c<;>simp[List.foldlM_cons,Builtin.max2,Builtin.min2]
theorem AJ{a:Bool}{vs:List Value}{f:Value→Prop}{ats:Array TypeId}{ty:TypeId}(h:Gn a vs f):∃v,f v∧∀w,(bif a then Builtin.max_ ats ty vs.toArray else Builtin.min_ ats ty vs.toArray).run P w=.ok v w:=by
 unfold Gn at h;split at h
 ·obtain⟨v,c,b⟩:=CL (P:=P) h
  refine⟨v,c,fun w=>?_⟩
  have:=b w;cases a<;>simpa[Builtin.max_,Builtin.min_]using this
 ·exact h.elim
theorem TU{a:Addr}{e:MapEntry}{w:World}(i:a.off=0)(h:QV w.heap a.block e):(Instr.entry (.pointer (some a))).run P w=.ok (.tuple #[e.key,e.val]) w:=by
 obtain⟨m,c,f,d,g,es,hi,k,hm,o⟩:=h;obtain⟨b,off,j⟩:=a;simp only at i hi;subst i;have n:(getObj b).run P w=.ok (.mapIter (some m) c f d) w:=by simp only[getObj,Sem.run,hi]
 simp[Instr.entry,n,k,na hm,o]
def JN:DV→Value→Prop
 | .t,v=>v=.bool true
 | .f,v=>v=.bool false
 | .u,v=>v=undef
 | .x,_=>True
def DecOk(d:xo)(r:cV):Prop:=∀t,tg d t=.x∨∃v,lL r t=some v∧JN (tg d t) v
theorem DecOk.at{d:xo}{r:cV}(h:DecOk d r){t:Nat}{v:Value}(hv:lL r t=some v):JN (tg d t) v:=by
 rcases h t with e|⟨u,a,b⟩
 ·rw[e];trivial
 ·rw[hv]at a;cases a;exact b
theorem wP{d:xo}{r:cV}(hd:DecOk d r){o:Operand}{v:Value}(h:dV r o=some v):JN (C2 d o) v:=by
 cases o with
 |tmp t=>exact hd.at h
 |const c=>
  simp[dV]at h;subst h;cases c with
  |bool b=>cases b<;>exact rfl
  |_=>trivial
 |global g=>trivial
 |func f=>trivial
theorem Fg{t:TypeId}(h:rU P t=true):∃d,P.underlying t=some d∧∀m,d≠ .interface m:=by
 unfold rU at h;split at h
 ·cases h
 ·rename_i d hd;exact⟨_,hd,fun m e=>by subst e;simp_all⟩
 ·cases h
theorem CO{t:TypeId}{v:Value}(h:rU P t=true)(w:World):(Instr.makeInterface t v).run P w=.ok (.iface t v) w:=by
 obtain⟨d,hd,a⟩:=Fg h;simp only[Instr.makeInterface,Sem.run_bind,aJ hd,Result.andThen_ok];cases d<;>first|exact absurd rfl (a _)|rfl
theorem GO{t u:TypeId}{v:Value}(h:rU P t=true)(w:World):(Instr.typeAssert (.iface t v) u t false).run P w=.ok v w:=by
 obtain⟨d,hd,a⟩:=Fg h;simp only[Instr.typeAssert,Sem.run_bind,aJ hd,Result.andThen_ok];cases d<;>first|exact absurd rfl (a _)|(simp[Sem.run_pure])
theorem lJ{t:TypeId}{z:List Value}(h:sC P t=some z):∃v,AB P t=some v∧v.cells.toList=z:=by
 unfold sC at h;cases hz:AB P t with
 |none=>rw[hz]at h;cases h
 |some v=>rw[hz]at h;simp only[bQ.injEq]at h;exact⟨v,rfl,h⟩
theorem tE{t:TypeId}{v:Value}(h:AB P t=some v):∃i,P.info? t=some i∧i.zero=some v:=by
 unfold AB at h;cases hi:P.info? t with
 |none=>rw[hi]at h;cases h
 |some i=>rw[hi]at h;exact⟨i,rfl,h⟩
theorem WH{A B:List Value}{x:Value}{m:Nat}(h:A.length=m):(A++x::B).take (m+1)=A++ [x]:=by
 subst h;rw[List.take_append,bJ (by omega),show A.length+1-A.length=1 by omega];rfl
theorem WJ{A B:List Value}{x:Value}{m n:Nat}(h:A.length=m):(A++x::B).drop (m+1+n)=B.drop n:=by
 subst h;rw[List.drop_append,List.drop_eq_nil_of_le (by omega),show A.length+1+n-A.length=n+1 by omega];rfl
theorem Oh(off:Nat):∀(xs:List Value) (k:Nat) (arr:Array Value),off+k+xs.length≤arr.size→
  (xs.zipIdx k).foldl (fun cs (c,j)=>cs.setIfInBounds (off+j) c) arr=(NL arr.toList (off+k) xs).toArray
 | [],k,arr,_=>by simp[NL]
 |x::xs,k,arr,h=>by
  simp only[aH]at h;simp only[List.zipIdx_cons,List.foldl_cons];rw[Oh off xs (k+1) _ (by simp;omega)];have hm:off+k<arr.toList.length:=by simp;omega
  have b:arr.toList.set (off+k) x=arr.toList.take (off+k)++x::arr.toList.drop (off+k+1):=by
   rw[List.set_eq_take_append_cons_drop,if_pos hm]
  have a:(arr.toList.take (off+k)).length=off+k:=by simp;omega
  congr 1
  unfold NL;rw[Array.toList_setIfInBounds,b,←mB,WH a,WJ a];simp only[List.append_assoc,dB,List.nil_append,aH,List.drop_drop];rw[show off+k+1+xs.length=off+k+(xs.length+1) by omega]
theorem uX{a:Nat→Option (Nat×Nat)}:∀(parts:List (Nat×Value)) (cs cs':List Value),Fp a cs parts=some cs'→Instr.fill a cs.toArray parts=some cs'.toArray
 | [],cs,cs',h=>by simp only[Fp,bQ.injEq]at h;subst h;rfl
 |(i,v)::rest,cs,cs',h=>by
  simp only[Fp]at h;cases hp:a i with
  |none=>rw[hp]at h;cases h
  |some os=>
   obtain⟨off,size⟩:=os;rw[hp]at h;simp only at h;cases hb:(bX v.cells.toList.length size&&An (off+v.cells.toList.length) cs.length)with
   |false=>rw[hb]at h;cases h
   |true=>
    rw[hb]at h;simp only[bT]at hb;have g:=bC hb.1;have f:=j5 hb.2;have d:=uX rest _ _ h;have j:v.cells.size=size:=by simpa using g
    have b:off+v.cells.size≤cs.length:=by simpa using f
    have c:Array.foldl (fun cs x=>cs.setIfInBounds (off+x.2) x.1) cs.toArray v.cells.zipIdx=(NL cs off v.cells.toList).toArray:=by
     have:=Oh off v.cells.toList 0 cs.toArray (by simpa using b);simp only[dd]at this;rw[←this,←Array.foldl_toList];congr 1
     simp[Array.toList_zipIdx]
    simp only[Instr.fill,hp];rw[if_neg (by simp[j];omega)];simp only[c];exact d
theorem qc{N:Nat}{r:cV}{a:Act}(h:Agree N r a):∀{ps:List (Nat×Operand)} {vs:List (Nat×Value)},rT r ps=some vs→ps.map (fun p=>(p.1,a.eval p.2))=vs
 | [],vs,hv=>by simp[rT]at hv;subst hv;rfl
 |(i,o)::ps,vs,hv=>by
  simp only[rT]at hv;cases ho:dV r o with
  |none=>simp[ho]at hv
  |some v=>cases hos:rT r ps with
   |none=>simp[ho,hos]at hv
   |some us=>simp[ho,hos]at hv;subst hv;simp[lM h ho,qc h hos]
theorem rX{t:TypeId}(h:Aa P t=true)(w:World):(sizeOf t).run P w=.ok (cy P t) w:=by
 unfold Aa at h;cases hi:P.info? t with
 |none=>rw[hi]at h;cases h
 |some i=>simp[sizeOf,dy hi,cy,hi]
theorem Hk(w:World):∀l:List Field,C8 P l=true→(l.mapM fun f:Field=>((do pure (f.offset,←sizeOf f.type)):Sem (Nat×Nat))).run P w=.ok (l.map fun f:Field=>(f.offset,cy P f.type)) w
 | [],_=>rfl
 |f::l,h=>by
  simp only[C8]at h;cases hf:Aa P f.type with
  |false=>rw[hf]at h;cases h
  |true=>
   rw[hf]at h;rw[List.mapM_cons];simp only[Sem.run_bind,rX hf,Result.andThen_ok,Sem.run_pure,Hk w l h,cG]
theorem C7{t:TypeId}{ps:Array (Nat×Value)}{cs:List Value}(a:Mu P t ps.toList=some cs)(w:World):
  (Instr.build t ps).run P w=.ok (.agg cs.toArray) w:=by
 unfold Mu at a;split at a
 ·rename_i fs z hu hz
  obtain⟨v,hz,hv⟩:=lJ hz;cases ha:C8 P fs.toList with
  |false=>rw[ha]at a;cases a
  |true=>
   rw[ha]at a;have g:(fs.mapM fun f:Field=>((do pure (f.offset,←sizeOf f.type)):Sem (Nat×Nat))).run P w=.ok (fs.map fun f:Field=>(f.offset,cy P f.type)) w:=by
    rw[Array.mapM_eq_mapM_toList];simp only[Sem.run_map,Hk w fs.toList ha,Result.andThen_ok];congr 1
    apply dG;simp
   have d:=uX _ _ _ a;have b:(fun i:Nat=>(fs.map fun f:Field=>(f.offset,cy P f.type))[i]?)=P4 P fs.toList:=by
    funext i;unfold P4;rw[Array.getElem?_map,bR];cases fs[i]?<;>rfl
   have c:v.cells=z.toArray:=by rw[←hv]
   rw[cond_true]at a;rw[←b]at d;simp only[Instr.build,Sem.run_bind,fR hz,Result.andThen_ok,aJ hu,g,c,d,Sem.run_pure]
 ·rename_i n e z hu hz
  obtain⟨v,hz,hv⟩:=lJ hz;cases ha:Aa P e with
  |false=>rw[ha]at a;cases a
  |true=>
   rw[ha]at a;have d:=uX _ _ _ a;have c:v.cells=z.toArray:=by rw[←hv]
   simp only[Instr.build,Sem.run_bind,fR hz,Result.andThen_ok,aJ hu,rX ha,c,d,Sem.run_pure]
 ·cases a
theorem Ea{ek:Option (Kind×Kind)}{o:Oper}{r:cV}{K:RK}{h:af}{N:Nat}{a:Act}(O:Agree N r a)(g:DX P ek o.op r K h)(d:xo)(hd:DecOk d r):
  ∃v S,K v S∧W8 S h∧JN (M5 d o.op) v∧∀w:World,W8 S w.heap→(execOp a.eval o).run P w=.ok (.value v) w:=by
 have j:∀{x:Operand} {v:Value},dV r x=some v→a.eval x=v:=fun h=>lM O h
 have fin:∀{s:Sem Value},Yv P s K h→M5 d o.op=.x→(∀w,(execOp a.eval o).run P w=(do pure (Next.value (←s)):Sem Next).run P w)→
   ∃v S,K v S∧W8 S h∧JN (M5 d o.op) v∧∀w:World,W8 S w.heap→(execOp a.eval o).run P w=.ok (.value v) w:=by
  rintro s ⟨v,S,n,B,z⟩ hx E;exact⟨v,S,n,B,by rw[hx];trivial,fun w C=>by rw[E w];exact kg (z w C)⟩
 obtain⟨M,J,type,pp,F,D⟩:=o;simp only at g fin⊢;cases J with
 |move x=>
  simp only[DX]at g;split at g
  ·rename_i v hv
   exact⟨v,none,g,trivial,wP hd hv,fun w _=>by simp[execOp,j hv]⟩
  ·exact g.elim
 |assign x=>
  simp only[DX]at g;split at g
  ·rename_i v hv
   exact⟨v,none,g,trivial,wP hd hv,fun w _=>by simp[execOp,j hv]⟩
  ·exact g.elim
 |pick c x y=>
  simp only[DX]at g;split at g
  ·rename_i vc va vb hc hx Q
   unfold YU at g;split at g
   ·rename_i cb
    have H:=wP hd hc;have Y:=wP hd hx;have V:=wP hd Q;have E:∀w,(execOp a.eval ⟨M,.pick c x y,type,pp,F,D⟩).run P w=.ok (.value (if cb then va else vb)) w:=fun w=>by
     simp[execOp,j hc,j hx,j Q,asBool]
    have I:JN (M5 d (.pick c x y)) (if cb then va else vb):=by
     simp only[M5];cases hcd:C2 d c with
     |t=>
      rw[hcd]at H;have:cb=true:=by simpa[JN]using H
      subst this;exact Y
     |f=>
      rw[hcd]at H;have:cb=false:=by simpa[JN]using H
      subst this;exact V
     |u=>trivial
     |x=>trivial
    split at g
    ·rename_i bx by'
     have L:(if cb=true then Value.bool bx else Value.bool by')=.bool (bif cb then bx else by'):=by cases cb<;>rfl
     rw[L]at I;exact⟨_,none,g,trivial,I,fun w _=>by rw[E w,L]⟩
    ·cases cb
     ·exact⟨_,none,g,trivial,I,fun w _=>E w⟩
     ·exact⟨_,none,g,trivial,I,fun w _=>E w⟩
   ·exact g.elim
  ·exact g.elim
 |load t x=>
  simp only[DX]at g;split at g
  ·rename_i v hv
   obtain⟨u,S,n,B,z⟩:=Fa g;exact fin ⟨u,some S,n,B,z⟩ rfl fun w=>by simp only[execOp,j hv]
  ·exact g.elim
 |nilCheck x=>
  simp only[DX]at g;split at g
  ·rename_i p hv
   obtain⟨b,rfl,n⟩:=g;exact⟨_,none,n,trivial,trivial,fun w _=>by simp[execOp,j hv]⟩
  ·exact g.elim
 |binOp J t x y yt=>
  simp only[DX]at g;split at g
  ·rename_i v u hv hu
   obtain⟨W,S,n,B,z⟩:=PW (x:=x) (y:=y) g;refine⟨W,S,n,B,trivial,fun w C=>?_⟩
   simp only[execOp,j hv,j hu];exact kg (z w C)
  ·rename_i v u hna hv hu
   have go:(∀c d,v=.agg c→u=.agg d→False)∧(v=.nilIface→u=.nilIface→False)∧Yv P (binOp J t v u) K h:=by
    split at g
    ·exact Hp (neg:=false) g
    ·exact Hp (neg:=true) g
    ·exact PV g
   obtain⟨h1,Z,W,S,n,B,z⟩:=go;refine⟨W,S,n,B,trivial,fun w C=>?_⟩
   simp only[execOp,j hv,j hu];simp[Qz J t x y v u h1 Z w,z w C]
  ·exact g.elim
 |unOp J t x=>
  simp only[DX]at g;split at g
  ·rename_i v hv
   obtain⟨u,S,n,B,z⟩:=Tu (P:=P) (h:=h) g;refine⟨u,S,n,B,?_,fun w C=>by simp only[execOp,j hv];exact kg (z w C)⟩
   have G:=wP hd hv;cases J<;>try trivial
   simp only[M5];have A:=z {(default:World)with heap:=h} B;cases hx:C2 d x with
   |t=>
    rw[hx]at G;have:v=.bool true:=G;subst this;simp[Op.unary]at A;exact A.symm
   |f=>
    rw[hx]at G;have:v=.bool false:=G;subst this;simp[Op.unary]at A;exact A.symm
   |u=>trivial
   |x=>trivial
  ·exact g.elim
 |convert s t x=>
  simp only[DX]at g;split at g
  ·rename_i v hv
   exact fin (NH g) rfl fun w=>by simp only[execOp,j hv]
  ·exact g.elim
 |extract x i=>
  simp only[DX]at g;split at g
  ·rename_i vs hv
   split at g
   ·rename_i u hu
    have T:vs[i]? =some u:=by simpa using hu
    exact⟨u,none,g,trivial,trivial,fun w _=>by simp[execOp,j hv,Instr.extract,T]⟩
   ·exact g.elim
  ·exact g.elim
 |fieldAddr t x f=>
  simp only[DX]at g;split at g
  ·rename_i b u off hv hf
   exact fin (FZ hf g) rfl fun w=>by simp only[execOp,j hv]
  ·exact g.elim
 |field t x f=>
  simp only[DX]at g;split at g
  ·rename_i v hv
   exact fin (LQ g) rfl fun w=>by simp only[execOp,j hv]
  ·exact g.elim
 |indexAddr t x i=>
  simp only[DX]at g;split at g
  ·rename_i v u hv hu
   exact fin (Eb g) rfl fun w=>by simp only[execOp,j hv,j hu]
  ·exact g.elim
 |index t x i=>
  simp only[DX]at g;split at g
  ·rename_i v u hv hu
   exact fin (LP g) rfl fun w=>by simp only[execOp,j hv,j hu]
  ·exact g.elim
 |slice t x lo hi mx=>
  simp only[DX]at g;split at g
  ·rename_i v l h' m hv hl hh hm
   have X:∀{x:Option Operand} {v:Option Value},Kt r x=some v→x.map a.eval=v:=by
    intro x v hx;cases x with
    |none=>simp[Kt]at hx;subst hx;rfl
    |some x=>
     simp only[Kt]at hx;cases E:dV r x with
     |none=>simp[E]at hx
     |some u=>simp[E]at hx;subst hx;simp[j E]
   exact fin (LN g) rfl fun w=>by simp only[execOp,j hv,X hl,X hh,X hm]
  ·exact g.elim
 |lookup t x k ok=>
  simp only[DX]at g;split at g
  ·rename_i v u hv hu
   exact fin (Jg g) rfl fun w=>by simp only[execOp,j hv,j hu]
  ·exact g.elim
 |makeInterface t x=>
  simp only[DX]at g;split at g
  ·rename_i v hv
   cases hb:rU P t with
   |false=>rw[hb]at g;exact g.elim
   |true=>
    rw[hb,cond_true]at g;exact⟨_,none,g,trivial,trivial,fun w _=>by simp only[execOp,j hv];exact kg (CO hb w)⟩
  ·exact g.elim
 |typeAssert x u t ok=>
  simp only[DX]at g;split at g
  ·rename_i v hv
   cases ok with
   |true=>exact g.elim
   |false=>
    rw[cond_false]at g;unfold RQ at g;cases hb:rU P t with
    |false=>rw[hb]at g;exact g.elim
    |true=>
     rw[hb,cond_true]at g;split at g
     ·obtain⟨y,rfl,n⟩:=g
      exact⟨_,none,n,trivial,trivial,fun w _=>by simp only[execOp,j hv];exact kg (GO hb w)⟩
     ·exact g.elim
  ·exact g.elim
 |makeFunc fn first cap=>
  simp only[DX]at g;split at g
  ·rename_i vs us hv hu
   have L:=nO O hv;have e2:=nO O hu;refine⟨_,none,g,trivial,trivial,fun w _=>?_⟩
   have R:first.map a.eval=vs.toArray:=by rw[←L];apply dG;simp
   have f2:cap.map a.eval=us.toArray:=by rw[←e2];apply dG;simp
   simp[execOp,Instr.makeFunc,R,f2]
  ·exact g.elim
 |entry it=>
  simp only[DX]at g;split at g
  ·rename_i b kk vk hv
   obtain⟨h0,e,x,y,hi,n,Q,hK⟩:=g;refine⟨_,_,hK,hi,trivial,fun w C=>?_⟩
   simp only[execOp,j hv];refine kg ?_;rw[TU h0 C,n,Q]
  ·exact g.elim
 |call c=>
  simp only[DX]at g;have er:∀{b:Builtin} {vs:List Value},c.callee=.builtin b→po r c.args.toList=some vs→∃cs:Array Bool,∀w,(execOp a.eval ⟨M,.call c,type,pp,F,D⟩).run P w=
    (builtin b c.argTypes type cs vs.toArray).run P w:=by
   intro b vs hc q;have L:=nO O q;have R:c.args.map a.eval=vs.toArray:=by rw[←L];apply dG;simp
   refine⟨c.args.map fun| .const _=>true|_=>false,fun w=>?_⟩
   simp[execOp,resolve,hc,R,invoke];rfl
  split at g
  ·rename_i v t hc q hat
   obtain⟨cs,er⟩:=er hc q;obtain⟨u,S,n,B,z⟩:=PQ (ats:=c.argTypes) (ty:=type) (by rw[←bR,hat];rfl) g;exact⟨u,S,n,B,trivial,fun w C=>by rw[er w];simp only[builtin];exact kg (z w C)⟩
  ·rename_i v t hc q hat
   obtain⟨cs,er⟩:=er hc q;obtain⟨u,S,n,B,z⟩:=PU (h:=h) (ats:=c.argTypes) (ty:=type) (by rw[←bR,hat];rfl) g;exact⟨u,S,n,B,trivial,fun w C=>by rw[er w];simp only[builtin];exact kg (z w C)⟩
  ·rename_i vs hc q
   obtain⟨cs,er⟩:=er hc q;obtain⟨u,n,z⟩:=AJ (P:=P) (ats:=c.argTypes) (ty:=type) g;exact⟨u,none,n,trivial,trivial,fun w _=>by rw[er w];simp only[builtin];exact kg (z w)⟩
  ·rename_i vs hc q
   obtain⟨cs,er⟩:=er hc q;obtain⟨u,n,z⟩:=AJ (P:=P) (ats:=c.argTypes) (ty:=type) g;exact⟨u,none,n,trivial,trivial,fun w _=>by rw[er w];simp only[builtin];exact kg (z w)⟩
  ·exact g.elim
 |build t ps=>
  simp only[DX]at g;split at g
  ·rename_i vs q
   split at g
   ·rename_i cs hcs
    refine⟨_,none,g,trivial,trivial,fun w _=>?_⟩
    have hp:(ps.map fun x=>(x.1,a.eval x.2))=vs.toArray:=by
     rw[←qc O q];apply dG;simp
    have E:=C7 (ps:=vs.toArray) (by simpa using hcs) w;simp only[execOp];rw[show(ps.map fun(i,x)=>(i,a.eval x))=vs.toArray from hp]
    exact kg E
   ·exact g.elim
  ·exact g.elim
 |_=>simp only[DX]at g
end Go.Lift
namespace Go.Lift
open Go
variable {P:Program}
def OG(P:Program)(s:Sem Next)(K:WK)(w:World):Prop:=
 (∃v w',s.run P w=.ok (.value v) w'∧Tame w w'∧K v w'.heap)∨
 (∃w',s.run P w=.ok .skip w'∧Tame w w'∧K undef w'.heap)∨
 (∃f args,s.run P w=.ok (.enter f args) w∧Calls P f args w fun e w'=>Tame w w'∧∃v,e=.returned v∧K v w'.heap)∨
 (∃l fn tmps assign body,s.run P w=.ok (.round l fn tmps assign body) w∧
  ∀(c:Frame) (cs:List Frame),∃b w',Tame w w'∧K (.bool b) w'.heap∧Steps P (lone (Frame.round l fn tmps assign body .normal) (c::cs) w) (lone (c.finish (.bool b)) cs w'))
def Wv(P:Program)(s:Sem Value)(K:WK)(w:World):Prop:=∃v w',s.run P w=.ok v w'∧Tame w w'∧K v w'.heap
theorem Wv.out{s:Sem Value}{K:WK}{w:World}(h:Wv P s K w):OG P (do pure (Next.value (←s))) K w:=by
 obtain⟨v,w',b,c,a⟩:=h;exact .inl ⟨v,w',kg b,c,a⟩
def Wu(P:Program)(s:Sem Unit)(K:WK)(w:World):Prop:=∃w',s.run P w=.ok () w'∧Tame w w'∧K undef w'.heap
theorem Wu.out{s:Sem Unit}{K:WK}{w:World}(h:Wu P s K w):OG P (do s;pure Next.skip) K w:=by
 obtain⟨w',b,c,a⟩:=h;exact .inr (.inl ⟨w',Vp b,c,a⟩)
def lK(w:World)(h:af):World:={w with heap:=h}
theorem fJ(w:World)(h:af):Tame w (lK w h):=⟨rfl,rfl,rfl⟩
theorem lS(e:TypeId)(cs:Array Value)(w:World):(newRow e cs).run P w=.ok (aI w.heap) (lK w (hnew w.heap cs.toList e)):=by
 simp[newRow,newObj,Sem.run,aI,lK,hnew,bind,Sem.bind,pure]
theorem Ha(o:Obj)(w:World):(newObj o).run P w=.ok w.heap.size (lK w (w.heap.push o)):=rfl
theorem Jo{h:af}{a b:Addr}(v:Value)(c:a≠b):aR (hset h a v) b=aR h b:=
 World.cell?_setCell_other {(default:World)with heap:=h} a b v c
theorem FY{h:af}{a:Addr}{u:Value}(v:Value)(hc:aR h a=some u):aR (hset h a v) a=some v:=
 World.cell?_setCell_same {(default:World)with heap:=h} a v hc
theorem L9{h:af}{a b:Addr}(v:Value):Gu (hset h a v) b=Gu h b:=
 World.frozen?_setCell {(default:World)with heap:=h} a b v
theorem Wr.hset{h:af}{a b:Addr}(v:Value)(f:Wr h b):Wr (hset h a v) b:=by
 obtain⟨⟨u,c⟩,d⟩:=f;refine⟨?_,by rw[L9];exact d⟩
 by_cases e:a=b
 ·subst e;exact⟨v,FY v c⟩
 ·exact⟨u,by rw[Jo v e];exact c⟩
theorem PI{w:World}{a:Addr}{v:Value}(hv:∀cs,v≠ .agg cs)(c:∀cs,v≠ .tuple cs)(i:Wr w.heap a):(store a v).run P w=.ok () (lK w (hset w.heap a v)):=by
 obtain⟨⟨u,f⟩,g⟩:=i;have b:w.cell? a=some u:=f;have d:w.frozen? a=false:=g;cases v<;>first|exact absurd rfl (hv _)|exact absurd rfl (c _)|(simp only[store,Sem.run,b,d];rfl)
theorem L2{v:Value}{vs:List Value}(h:cH (v::vs)=true):(∀cs,v≠ .agg cs)∧(∀cs,v≠ .tuple cs)∧cH vs=true:=by
 simp only[cH,bT]at h;refine⟨fun cs e=>?_,fun cs e=>?_,h.2⟩<;>(subst e;exact absurd h.1 (by simp))
theorem tW{a:Addr}:∀(vs:List Value) (i:Nat) (w:World),cH vs=true→(∀j,j<vs.length→Wr w.heap (adr a (i+j)))→
  (storeCells a vs i).run P w=.ok () (lK w (g8 w.heap a i vs))
 | [],i,w,_,_=>rfl
 |v::vs,i,w,b,hw=>by
  obtain⟨f,g,b⟩:=L2 b;have c:=hw 0 (by simp);simp only[dd]at c;have d:a.add i=adr a i:=(wn a i).symm;simp only[storeCells,d,Sem.run_bind,PI f g c,Result.andThen_ok];rw[tW vs (i+1) (lK w (hset w.heap (adr a i) v)) b fun j k=>?_]
  ·rfl
  ·have:=hw (j+1) (by simp only[aH];omega)
   rw[show i+1+j=i+(j+1) by omega]
   exact this.hset v
theorem KP{a:Addr}(m:Nat):∀(vs:List Value) (i:Nat) (h:af),g8 h (adr a m) i vs=g8 h a (m+i) vs
 | [],_,_=>rfl
 |v::vs,i,h=>by
  simp only[g8];rw[KP m vs (i+1),Db];rfl
theorem Ls{t:TypeId}{a v:Value}{K:WK}{w:World}(c:Pk P t a v K w.heap):Wu P (Instr.storeAt t a v) K w:=by
 unfold Pk at c;split at c
 ·rename_i a
  cases hb:(bX v.cells.toList.length (cy P t)&&cH v.cells.toList)with
  |false=>rw[hb]at c;exact c.elim
  |true=>
   rw[hb]at c;simp only[bT]at hb;have n:=bC hb.1;obtain⟨c,hz⟩:=qY c;have g:v.cells.size=cy P t:=by simpa using n
   have m:(∀j,j<v.cells.toList.length→Wr w.heap (adr a (0+j)))→(Instr.storeAt t (.pointer (some a)) v).run P w=.ok () (lK w (g8 w.heap a 0 v.cells.toList)):=by
    intro d;have:=tW (P:=P) v.cells.toList 0 w hb.2 d;simp[Instr.storeAt,Instr.sureAddr,storeVar,hz,g,this]
   split at c
   ·rename_i u hu
    obtain⟨d,i⟩:=c;refine⟨_,m (fun j f=>?_),fJ _ _,?_⟩
    ·rw[hu]at f;simp only[aH,List.length_nil]at f
     obtain rfl:j=0:=by omega
     exact d
    ·rw[hu];exact i
   ·obtain⟨d,i⟩:=c
    refine⟨_,m (fun j f=>?_),fJ _ _,i⟩
    rcases d with e|⟨b,k,d⟩
    ·rw[e]at f;cases f
    ·cases k;exact d j f
 ·exact c.elim
theorem lg(z:Array Value)(n:Nat):(Builtin.zeroCells z n).toList=eh n z.toList:=by
 have key:∀n,(List.range (n*z.size)).map (fun i=>z[i%z.size]!)=(eD n z.toList).flatten:=by
  intro n;induction n with
  |zero=>simp
  |succ n ih=>
   rw[Nat.succ_mul,List.range_add,List.map_append,ih,List.replicate_succ',List.flatten_append];congr 1
   simp only[tQ,List.flatten_cons,List.flatten_nil,List.append_nil];apply List.ext_getElem
   ·simp
   ·intro i a b
    simp only[List.length_map,List.length_range]at a;simp[Nat.mod_eq_of_lt a,a,Nat.add_mod]
 simpa[Builtin.zeroCells,eh]using key n
theorem eB{t e:TypeId}(h:yl P t=some e):P.underlying t=some (.slice e):=by
 unfold yl at h;split at h
 ·rename_i e' hu;simp only[bQ.injEq]at h;subst h;exact hu
 ·cases h
theorem RB{z:Value}{n:Nat}:((Array.range (n*z.cells.size)).map (z.cells[· %z.cells.size]!))=(eh n z.cells.toList).toArray:=by
 have:=lg z.cells n;unfold Builtin.zeroCells at this;apply dG;rw[this]
theorem Ez{t e:TypeId}{n:Nat}{ps:Array (Nat×Value)}{z cs:List Value}(p:yl P t=some e)(hz:sC P e=some z)(q:n*cy P e≤16777216)(j:z.length=cy P e)
  (k:Fp (fun i=>some (i*cy P e,cy P e)) (eh n z) ps.toList=some cs)(w:World):
  (Instr.buildSlice t n ps).run P w=.ok (.slice (some (aI w.heap)) n n) (lK w (hnew w.heap cs e)):=by
 obtain⟨v,hv,c⟩:=lJ hz;obtain⟨i,hi,o⟩:=tE hv;have m:(sizeOf e).run P w=.ok (cy P e) w:=by simp[sizeOf,dy hi,cy,hi]
 have d:v.cells.size=cy P e:=by rw[←j,←c];simp
 have g:=uX _ _ _ k;have a:((Array.range (n*cy P e)).map (fun i=>(if n*cy P e=0 then #[]else v.cells)[i%(if n*cy P e=0 then #[]else v.cells).size]!))=(eh n z).toArray:=by
  by_cases b:n*cy P e=0
  ·have:(eh n z).length=0:=by simp[eh,j,b]
   rw[aO.1 this];simp[b]
  ·simp only[if_neg b]
   rw[←d,RB,c]
 have f:¬(n*cy P e>2^24):=by omega
 simp only[Instr.buildSlice,Sem.run_bind,aJ (eB p),Result.andThen_ok,m,if_neg f];by_cases b:n*cy P e=0
 ·simp only[if_pos b]at a
  simp only[if_pos b,Sem.run_bind,Sem.run_pure,Result.andThen_ok,a,g,lS]
 ·simp only[if_neg b]at a
  simp only[if_neg b,Sem.run_bind,Sem.run_pure,Result.andThen_ok,fR hv,a,g,lS]
theorem Tp{h:af}{a:Addr}{vs:List Value}(b:Row h a vs):∀j v,vs[j]? =some v→aR h (a.add j)=some v:=fun j v hv=>by
 rw[←wn];exact b j v hv
theorem zQ{size n cap len:Nat}{b:Option Addr}{vs:List Value}{w:World}(c:SRow w.heap b (n*size) vs):(Builtin.firstCells size n (.slice b len cap)).run P w=.ok vs.toArray w:=by
 obtain⟨d,a⟩:=c;cases b with
 |none=>
  rcases a with rfl|⟨_,h,_⟩
  ·simp[Builtin.firstCells]
  ·cases h
 |some b=>
  refine run_firstCells_some w size n b len cap vs d fun j v hv=>?_
  rcases a with rfl|⟨_,h,a⟩
  ·cases hv
  ·cases h;exact Tp a j v hv
theorem GV{a:Addr}{m:Nat}{xs:List Value}{w:World}(g:cH xs=true)(c:vo w.heap (some a) m xs):
  (storeCells (a.add m) xs).run P w=.ok () (lK w (g8 w.heap a m xs)):=by
 rcases c with rfl|⟨b,d,c⟩
 ·rfl
 ·cases d
  have:=tW (P:=P) (a:=adr a m) xs 0 w g fun j f=>by rw[Db,aU];exact c j f
  rw[←wn,this,KP,dd]
set_option maxHeartbeats 1000000 in
theorem Ia{t e u ty:TypeId}{b:Option Addr}{sl f d:Nat}{xs:List Value}{x:Value}{K:WK}{w:World}(y:yl P t=some e)(k:(∃e',P.underlying u=some (.slice e'))∨P.underlying u=some .string)
  (g:∀w,(Builtin.lenOf x).run P w=.ok d w)(hx:∀w':World,w'.heap=w.heap→(Builtin.firstCells (cy P e) d x).run P w'=.ok xs.toArray w')
  (hi:∃i,P.info? e=some i)
  (h:W0 P e b sl f d xs K w.heap):Wv P (Builtin.append_ #[t,u] ty #[.slice b sl f,x]) K w:=by
 obtain⟨i,hi⟩:=hi;have j:cy P e=i.size:=by simp[cy,hi]
 have F:sN P e=i.bytes:=by simp[sN,hi]
 by_cases hc:sl+d≤f
 ·obtain⟨I,H,G⟩:=h.1 hc
  refine⟨_,_,?_,fJ w (gC w.heap b (sl*cy P e) xs),G⟩;cases b with
  |none=>
   have c:=hx w rfl;rw[j]at c;rcases k with⟨e',hd⟩|hd<;>(simp[Builtin.append_,aJ (eB y),aJ hd,sizeOf,dy hi,g,hc,c];rfl)
  |some a=>
   have n:=GV (P:=P) H I;have c:=hx w rfl;rw[j]at n c;rcases k with⟨e',hd⟩|hd<;>(simp[Builtin.append_,aJ (eB y),aJ hd,sizeOf,dy hi,g,hc,c,n,gC,j])
 ·obtain⟨q,z,L,hz,A,C,G⟩:=h.2 (by omega)
  obtain⟨v,hv,D⟩:=lJ hz;obtain⟨M,o,J⟩:=tE hv;rw[hi]at o;cases o;rw[F]at A C;have s:¬i.bytes=0:=by omega
  have m:¬(281474976710656<Builtin.nextslicecap (sl+d) f*i.bytes):=by omega
  have c:=hx w.drew rfl;have p:(Builtin.firstCells (cy P e) sl (.slice b sl f)).run P w.drew=.ok q.toArray w.drew:=zQ L;rw[j]at c p;have E:sl+d≤(Question.appendCap (sl+d) f e).cut (w.tape w.drawn (.appendCap (sl+d) f e)):=rv _ _;refine⟨_,lK w.drew (hnew w.heap (q++xs++eh ((Question.appendCap (sl+d) f e).cut (w.tape w.drawn (.appendCap (sl+d) f e))-(sl+d)) z) e),?_,⟨rfl,rfl,rfl⟩,G _ E⟩
  have B:(Builtin.zeroCells v.cells ((Question.appendCap (sl+d) f e).cut (w.tape w.drawn (.appendCap (sl+d) f e))-(sl+d)))=(eh ((Question.appendCap (sl+d) f e).cut (w.tape w.drawn (.appendCap (sl+d) f e))-(sl+d)) z).toArray:=by
   apply dG;rw[lg,D]
  rcases k with⟨e',hd⟩|hd<;>(simp[Builtin.append_,aJ (eB y),aJ hd,sizeOf,dy hi,g,hc,s,m,Question.forced,c,p,fR hv,lS,B,aI];rfl)
theorem HF{t:TypeId}{K:Prop}(h:VJ P t K):∃i,P.info? t=some i:=by
 unfold VJ at h;cases hi:P.info? t with
 |none=>rw[hi]at h;exact h.elim
 |some i=>exact⟨i,rfl⟩
theorem CS{t:TypeId}(h:cy P t≠0):∃i,P.info? t=some i:=by
 cases hi:P.info? t with
 |none=>exact absurd (by simp[cy,hi]) h
 |some i=>exact⟨i,rfl⟩
theorem Fy{size n:Nat}{x:ByteArray}{w:World}:(Builtin.firstCells size n (.string x)).run P w=.ok ((eC x).take n).toArray w:=by
 simp only[Builtin.firstCells,Sem.run_pure];congr 1
 apply dG;simp[eC,qK,ij,←List.map_take]
theorem AF{t u ty:TypeId}{s x:Value}{K:WK}{w:World}(c:(∃e',P.underlying u=some (.slice e'))∨P.underlying u=some .string)(h:Gf P t s x K w.heap):
  Wv P (Builtin.append_ #[t,u] ty #[s,x]) K w:=by
 unfold Gf at h;split at h
 ·rename_i e b sl sc a xl xc ht
  have hi:=HF h;obtain⟨⟨xs,d,f⟩,hz⟩:=qY h;exact Ia ht c (fun w=>rfl) (fun w' g=>zQ (by rw[g];exact d)) hi f
 ·rename_i e b sl sc x ht
  cases hb:bX (cy P e) 1 with
  |false=>rw[hb]at h;exact h.elim
  |true=>
   rw[hb]at h;have j:=bC hb;have i:(eC x).length=x.size:=by simp[eC]
   refine Ia ht c (fun w=>rfl) (fun w' _=>?_) (CS (by omega)) h
   rw[Fy,bJ (by omega)]
 ·exact h.elim
theorem DY{n:Int}(b:0≤n)(a:n≤9223372036854775807):IntKind.i64.wrap n=n:=IntWalk.i64_in n ⟨by omega,a⟩
theorem QQ{t e u ty:TypeId}{b:Option Addr}{sl f:Nat}{k0 k:IntKind}{l:Int}{z:List Value}{K:WK}{w:World}(A:yl P t=some e)(y:P.underlying u=some (.int k0))
  (hz:sC P e=some z)(M:z.length=cy P e)(X:0≤l)(L:l*sN P e≤2^48)(V:l≤9223372036854775807)(h3:((sl+l.toNat:Nat):Int)≤9223372036854775807)
  (h:W0 P e b sl f l.toNat (eh l.toNat z) K w.heap):Wv P (Builtin.append_ #[t,u] ty #[.slice b sl f,.int k l]) K w:=by
 obtain⟨v,hv,H⟩:=lJ hz;obtain⟨i,hi,Y⟩:=tE hv;have j:cy P e=i.size:=by simp[cy,hi]
 have I:sN P e=i.bytes:=by simp[sN,hi]
 have B:IntKind.wrap .i64 l=l:=DY X V;have c:¬l<0:=by omega
 rw[I]at L;have d:¬(281474976710656:Int)<l*i.bytes:=by omega
 have g:∀w':World,(asInt (.int k l)).run P w'=.ok l w':=fun w'=>rfl
 have F:(Builtin.zeroCells v.cells l.toNat)=(eh l.toNat z).toArray:=by apply dG;rw[lg,H]
 have q:l.toNat*i.size=0→eh l.toNat z= []:=fun Q=>by
  have C:(eh l.toNat z).length=l.toNat*i.size:=by rw[←j,←M];unfold eh;simp
  exact aO.1 (by rw[C,Q])
 by_cases hc:sl+l.toNat≤f
 ·obtain⟨N,L,J⟩:=h.1 hc
  refine⟨_,_,?_,fJ w (gC w.heap b (sl*cy P e) (eh l.toNat z)),J⟩;cases b with
  |none=>
   by_cases m:l.toNat*i.size=0
   ·simp[Builtin.append_,aJ (eB A),aJ y,sizeOf,dy hi,g,B,c,d,hc,m];rfl
   ·simp[Builtin.append_,aJ (eB A),aJ y,sizeOf,dy hi,g,B,c,d,hc,fR hv];rfl
  |some a=>
   have n:=GV (P:=P) L N;rw[j]at n;by_cases m:l.toNat*i.size=0
   ·rw[q m]at n
    simp[Builtin.append_,aJ (eB A),aJ y,sizeOf,dy hi,g,B,c,d,hc,n,gC,j,m,q m]
   ·simp[Builtin.append_,aJ (eB A),aJ y,sizeOf,dy hi,g,B,c,d,hc,n,gC,j,m,fR hv,F]
 ·obtain⟨G,z',Z,D,O,R,J⟩:=h.2 (by omega)
  rw[hz]at D;cases D;rw[I]at O R;have T:¬i.bytes=0:=by omega
  have o:¬(281474976710656<Builtin.nextslicecap (sl+l.toNat) f*i.bytes):=by omega
  have W:¬(9223372036854775807:Int)<((sl:Int)+(l.toNat:Int)):=by omega
  have p:¬(9223372036854775807:Int)<((sl:Int)+max l 0):=by omega
  have s:(Builtin.firstCells (cy P e) sl (.slice b sl f)).run P w.drew=.ok G.toArray w.drew:=zQ Z;rw[j]at s;have S:sl+l.toNat≤(Question.appendCap (sl+l.toNat) f e).cut (w.tape w.drawn (.appendCap (sl+l.toNat) f e)):=rv _ _;refine⟨_,lK w.drew (hnew w.heap (G++eh l.toNat z++eh ((Question.appendCap (sl+l.toNat) f e).cut (w.tape w.drawn (.appendCap (sl+l.toNat) f e))-(sl+l.toNat)) z) e),?_,⟨rfl,rfl,rfl⟩,J _ S⟩
  have E:(Builtin.zeroCells v.cells ((Question.appendCap (sl+l.toNat) f e).cut (w.tape w.drawn (.appendCap (sl+l.toNat) f e))-(sl+l.toNat)))=(eh ((Question.appendCap (sl+l.toNat) f e).cut (w.tape w.drawn (.appendCap (sl+l.toNat) f e))-(sl+l.toNat)) z).toArray:=by
   apply dG;rw[lg,H]
  by_cases m:l.toNat*i.size=0
  ·rw[q m]at J⊢
   simp[Builtin.append_,aJ (eB A),aJ y,sizeOf,dy hi,g,B,c,d,hc,p,o,Question.forced,s,fR hv,lS,E,aI,m];rfl
  ·simp[Builtin.append_,aJ (eB A),aJ y,sizeOf,dy hi,g,B,c,d,hc,p,o,Question.forced,s,fR hv,lS,E,aI,m,F];rfl
theorem GH{t u ty:TypeId}{k0:IntKind}{s x:Value}{K:WK}{w:World}(a:P.underlying u=some (.int k0))(h:GI P t s x K w.heap):
  Wv P (Builtin.append_ #[t,u] ty #[s,x]) K w:=by
 unfold GI at h;split at h
 ·rename_i e b sl sc k l ht
  split at h
  ·rename_i z hz
   cases hb:bX z.length (cy P e)with
   |false=>rw[hb]at h;exact h.elim
   |true=>
    rw[hb]at h;obtain⟨⟨f,g,d,i⟩,c⟩:=h;exact QQ ht a hz (bC hb) f g d i c
  ·exact h.elim
 ·exact h.elim
theorem kA:∀{a b:List Value},cH a=true→cH b=true→cH (a++b)=true
 | [],_,_,h=>h
 |v::a,b,h,k=>by
  simp only[cH,dB,bT]at h⊢;exact⟨h.1,kA h.2 k⟩
theorem CE{z:List Value}(h:cH z=true):∀n,cH (eh n z)=true
 |0=>rfl
 |n+1=>by
  have:eh (n+1) z=z++eh n z:=by simp[eh,List.replicate_succ]
  rw[this];exact kA h (CE h n)
theorem Lu{t ty:TypeId}{x:Value}{K:WK}{w:World}(h:Pl P t x K w.heap):Wv P (Builtin.clear_ #[t] ty #[x]) K w:=by
 unfold Pl at h;split at h
 ·rename_i e a n c ht
  split at h
  ·rename_i z hz
   obtain⟨v,hv,d⟩:=lJ hz;cases ho:cH z with
   |false=>rw[ho]at h;exact h.elim
   |true=>
    rw[ho]at h;obtain⟨i,g⟩:=h;refine⟨_,_,?_,fJ w (gC w.heap a 0 (eh n z)),g⟩;cases a with
    |none=>simp[Builtin.clear_,aJ (eB ht)];rfl
    |some a=>
     cases n with
     |zero=>simp[Builtin.clear_,aJ (eB ht)];rfl
     |succ n=>
      have b:=GV (P:=P) (CE ho (n+1)) i;rw[←wn,Ic]at b;have f:(Builtin.zeroCells v.cells (n+1)).toList=eh (n+1) z:=by rw[lg,d]
      simp[Builtin.clear_,aJ (eB ht),fR hv,f,b,gC]
  ·exact h.elim
 ·exact h.elim
theorem CF:∀(xs:List Value) (n:Nat),cH xs=true→cH (xs.take n)=true
 | [],n,_=>by simp[cH]
 |x::xs,0,_=>by simp[cH]
 |x::xs,n+1,h=>by
  simp only[cH,bT,List.take_succ_cons]at h⊢;exact⟨h.1,CF xs n h.2⟩
theorem Jk(x:ByteArray):cH (eC x)=true:=by
 have:∀l:List UInt8,cH (l.map fun b=>.int .u8 (b.toNat:Int))=true:=by
  intro l;induction l with
  |nil=>rfl
  |cons b l ih=>simp[cH,ih]
 exact this _
theorem Nb{t u ty:TypeId}{d s:Value}{K:WK}{w:World}(h:UY P t d s K w.heap):Wv P (Builtin.copy_ #[t,u] ty #[d,s]) K w:=by
 unfold UY at h;split at h
 ·rename_i e b dl dc a sl sc ht
  obtain⟨⟨xs,j,n,o,k⟩,hz⟩:=qY h;refine⟨_,_,?_,fJ w (gC w.heap b 0 xs),k⟩;have g:=zQ (P:=P) (len:=sl) (cap:=sc) j;cases b with
  |none=>simp[Builtin.copy_,aJ (eB ht),Builtin.lenOf,hz,g,goInt];rfl
  |some c=>
   have f:=GV (P:=P) (m:=0) o n;simp only[Addr.add,if_pos]at f;simp[Builtin.copy_,aJ (eB ht),Builtin.lenOf,hz,g,goInt,f,gC]
 ·rename_i e b dl dc x ht
  cases hb:bX (cy P e) 1 with
  |false=>rw[hb]at h;exact h.elim
  |true=>
   rw[hb]at h;have o:=bC hb;obtain⟨i,hi⟩:=CS (P:=P) (t:=e) (by omega);have hz:(sizeOf e).run P w=.ok (cy P e) w:=by simp[sizeOf,dy hi,cy,hi]
   obtain⟨n,k⟩:=h;have q:(eC x).length=x.size:=by simp[eC]
   have p:(eC x).take (eN x.size dl)=(eC x).take dl:=by
    by_cases hx:x.size≤dl
    ·rw[show eN x.size dl=x.size from Nat.min_eq_left hx,bJ (by omega),bJ (by omega)]
    ·rw[show eN x.size dl=dl from Nat.min_eq_right (by omega)]
   have g:(Builtin.firstCells (cy P e) (eN x.size dl) (.string x)).run P w=.ok ((eC x).take dl).toArray w:=by
    rw[Fy,p]
   refine⟨_,_,?_,fJ w (gC w.heap b 0 ((eC x).take dl)),k⟩;cases b with
   |none=>simp[Builtin.copy_,aJ (eB ht),Builtin.lenOf,hz,g,goInt];rfl
   |some c=>
    have f:=GV (P:=P) (m:=0) (CF _ dl (Jk x)) n;simp only[Addr.add,if_pos]at f;simp[Builtin.copy_,aJ (eB ht),Builtin.lenOf,hz,g,goInt,f,gC]
 ·exact h.elim
theorem RR(k v:Value)(a:Nat):∀(es:List MapEntry),(match es.findIdx? (fun e=>iW k e.key)with
  |some i=>(es.modify i (fun e=>{e with key:=k,val:=v}),a)
  |none=>(es++ [{key:=k,val:=v,born:=a}],a+1))=PZ k v a es
 | []=>rfl
 |e::es=>by
  have b:=RR k v a es;simp only[PZ,List.findIdx?_cons];cases hk:iW k e.key with
  |true=>simp[List.modify]
  |false=>
   simp only[dX,if_false];rw[←b];cases hf:es.findIdx? (fun e=>iW k e.key)with
   |none=>simp
   |some i=>simp[List.modify]
theorem y6{d:TypeDesc}{c:CK}(hd:qs d c)(x:c.den):∀(es:List MapEntry) (i:Nat),HA c es→
  Instr.findNow d (c.enc x) es i=some (match es.findIdx? (fun e=>iW (c.enc x) e.key)with
   |some j=>(es[j]?).map fun e=>(i+j,e.val)
   |none=>none)
 | [],i,_=>rfl
 |e::es,i,h=>by
  obtain⟨y,f⟩:=h e (by simp);have b:=E6 hd x y;rw[←f]at b;have g:=y6 hd x es (i+1) fun e' a=>h e' (by simp[a])
  simp only[Instr.findNow,List.findIdx?_cons,b];cases hb:iW (c.enc x) e.key with
  |true=>simp
  |false=>
   simp only[dX,if_false];rw[g];cases hf:es.findIdx? (fun e=>iW (c.enc x) e.key)with
   |none=>simp
   |some j=>simp[mB,Nat.add_comm 1 j]
theorem F1{a b:ByteArray}(h:(a==b)=true):a=b:=by
 cases a with|mk a=>cases b with|mk b=>
 have h:(a==b)=true:=h;rw[eq_of_beq h]
theorem H5(a:ByteArray):(a==a)=true:=by
 cases a with|mk a=>
 exact beq_self_eq_true a
theorem LK{d:TypeDesc}{c:CK}(hd:qs d c)(x y:c.den)(h:iW (c.enc x) (c.enc y)=true):Instr.sameBits 10000 (c.enc y) (c.enc x)=true:=by
 rcases hd with⟨i,rfl,rfl⟩|⟨rfl,rfl⟩|⟨rfl,rfl⟩
 ·have h:x=y:=eq_of_beq (α:=Int) h
  subst h;have:∀n:Int,(i==i&&n==n)=true:=fun n=>by simp
  exact this x
 ·have h:x=y:=F1 h
  subst h;exact H5 x
 ·have h:x=y:=eq_of_beq (α:=Bool) h
  subst h;exact beq_self_eq_true (α:=Bool) x
theorem xz{w:World}{r:Nat}{es:Array MapEntry}{a:Nat}{o:Obj}(h:w.heap[r]? =some (.map es a)):(setObj r o).run P w=.ok () (lK w (w.heap.setIfInBounds r o)):=by
 simp only[setObj,Sem.run,h];rfl
theorem P9{t k e:TypeId}{d:TypeDesc}{c:CK}(z:P.underlying t=some (.map k e))(s:P.underlying k=some d)(hd:qs d c){r:Nat}{x:c.den}{v:Value}{w:World}(hm:SK c w.heap r):
  (Instr.mapUpdate t (.map (some r)) (c.enc x) v).run P w=.ok () (lK w (Ye w.heap r (c.enc x) v)):=by
 obtain⟨es,a,j,f⟩:=hm;obtain⟨q,A,b,C⟩:=xD (P:=P) hd s x f w;rw[y6 hd x es.toList 0 f]at b;have g:=RR (c.enc x) v a es.toList;have n:Ye w.heap r (c.enc x) v=w.heap.setIfInBounds r (.map (PZ (c.enc x) v a es.toList).1.toArray (PZ (c.enc x) v a es.toList).2):=by
  simp only[Ye,j]
 rw[n,←g];simp only[Instr.mapUpdate,Sem.run_bind,aJ z,Result.andThen_ok,na j,oO hd s,A];cases hf:es.toList.findIdx? (fun e=>iW (c.enc x) e.key)with
 |none=>
  rw[hf]at b;simp only[bQ.injEq]at b;subst b;simp only[xz j];congr 4
  apply dG;simp
 |some i=>
  rw[hf]at b;simp only[bQ.injEq]at b;obtain⟨hi,u,_⟩:=List.findIdx?_eq_some_iff_getElem.1 hf;have p:es.toList[i]? =some es.toList[i]:=ag hi;rw[p]at b;simp only[hO,aU]at b;subst b;have m:es[i]? =some es.toList[i]:=by rw[←bR];exact p
  obtain⟨y,B⟩:=f es.toList[i] (List.getElem_mem hi);have o:Instr.sameBits 10000 (es.toList[i]).key (c.enc x)=true:=by
   rw[B]at u⊢;exact LK hd x y u
  simp only[m,hO,Option.getD_some,Instr.keyThatStays,o,if_true,Sem.run_bind,Sem.run_pure,Result.andThen_ok,xz j];congr 4
  apply dG;simp
theorem AE{t:TypeId}{m k v:Value}{K:WK}{w:World}(h:Ge P t m k v K w.heap):Wu P (Instr.mapUpdate t m k v) K w:=by
 unfold Ge at h;split at h
 ·rename_i c e m hc
  obtain⟨i,d,a,b,hd⟩:=yY hc;obtain⟨g,rfl,r,rfl,hm,f⟩:=CK.dec_sound h;exact⟨_,P9 a b hd hm,fJ _ _,f⟩
 ·exact h.elim
theorem Ou(k:Value):∀(es:List MapEntry),(match es.findIdx? (fun e=>iW k e.key)with
  |some i=>es.eraseIdx i
  |none=>es)=Ov k es
 | []=>rfl
 |e::es=>by
  have a:=Ou k es;simp only[Ov,List.findIdx?_cons];cases hk:iW k e.key with
  |true=>simp
  |false=>
   simp only[dX,if_false];rw[←a];cases hf:es.findIdx? (fun e=>iW k e.key)<;>simp
theorem N0{t k e ty:TypeId}{ts:Array TypeId}{d:TypeDesc}{c:CK}(y:ts[0]? =some t) (s:P.underlying t=some (.map k e)) (p:P.underlying k=some d) (hd:qs d c) {r:Nat} {x:c.den} {w:World} (hm:SK c w.heap r):
  (Builtin.delete_ ts ty #[.map (some r),c.enc x]).run P w=.ok (.tuple #[]) (lK w (R9 w.heap r (c.enc x))):=by
 obtain⟨es,g,m,j⟩:=hm;obtain⟨q,v,b,z⟩:=xD (P:=P) hd p x j w;rw[y6 hd x es.toList 0 j]at b;have f:=Ou (c.enc x) es.toList;have n:R9 w.heap r (c.enc x)=w.heap.setIfInBounds r (.map (Ov (c.enc x) es.toList).toArray g):=by
  simp only[R9,m]
 rw[n,←f];simp only[Builtin.delete_,y,List.getElem?_toArray,List.getElem?_cons_zero,List.getElem?_cons_succ,Sem.run_bind,aJ s,Result.andThen_ok,na m,oO hd p,v];cases hf:es.toList.findIdx? (fun e=>iW (c.enc x) e.key)with
 |none=>
  rw[hf]at b;simp only[bQ.injEq]at b;subst b;simp[xz m]
 |some i=>
  rw[hf]at b;simp only[bQ.injEq]at b;obtain⟨hi,A,_⟩:=List.findIdx?_eq_some_iff_getElem.1 hf;have u:es.toList[i]? =some es.toList[i]:=ag hi;rw[u]at b;simp only[hO,aU]at b;subst b;have o:i<es.size:=by simpa using hi
  have a:es.eraseIdxIfInBounds i=(es.toList.eraseIdx i).toArray:=by
   apply dG;simp[Array.eraseIdxIfInBounds,o]
  simp[xz m,a]
theorem GF{t ty:TypeId}{ts:Array TypeId}{m k:Value}{K:WK}{w:World}(g:ts[0]? =some t) (h:GG P t m k K w.heap):Wv P (Builtin.delete_ ts ty #[m,k]) K w:=by
 unfold GG at h;split at h
 ·rename_i c e m hc
  obtain⟨j,d,b,f,hd⟩:=yY hc;obtain⟨i,rfl,h⟩:=CK.dec_sound h;rcases h with⟨rfl,a⟩|⟨r,rfl,hm,a⟩
  ·refine⟨_,w,?_,Tame.refl w,a⟩
   simp[Builtin.delete_,g,aJ b,oO hd f]
  ·exact⟨_,_,N0 g b f hd hm,fJ _ _,a⟩
 ·exact h.elim
theorem Tt{t k e:TypeId}(b:P.underlying t=some (.map k e)){m:Option Nat}{a:Nat}{w:World}(hm:m=none∧a=0∨∃r es,m=some r∧w.heap[r]? =some (.map es a)):
  (Instr.range t (.map m)).run P w=.ok (.pointer (some (aI w.heap))) (lK w (w.heap.push (.mapIter m a #[] a))):=by
 rcases hm with⟨rfl,rfl⟩|⟨r,es,rfl,c⟩
 ·simp only[Instr.range,Sem.run_bind,aJ b,Result.andThen_ok,Sem.run_pure,Ha,aI]
 ·simp only[Instr.range,Sem.run_bind,aJ b,Result.andThen_ok,Sem.run_pure,na c,Ha,aI]
theorem yS{w:World}{i:Nat}{m:Option Nat}{a:Nat}{b:Array Nat}{c:Nat}(h:w.heap[i]? =some (.mapIter m a b c)):(getObj i).run P w=.ok (.mapIter m a b c) w:=by
 simp only[getObj,Sem.run,h]
theorem Nw{w:World}{i:Nat}{m:Option Nat}{a:Nat}{b:Array Nat}{c:Nat}{o:Obj}(h:w.heap[i]? =some (.mapIter m a b c)):(setObj i o).run P w=.ok () (lK w (w.heap.setIfInBounds i o)):=by
 simp only[setObj,Sem.run,h];rfl
theorem H2(n:Nat)(a:0<n)(w:World):∃k w',k<n∧(choose (.mapNext n)).run P w=.ok k w'∧Tame w w'∧w'.heap=w.heap:=by
 unfold choose;simp only[Sem.run];by_cases h:(Question.mapNext n).forced=true
 ·exact⟨0,w,a,by rw[if_pos h],Tame.refl w,rfl⟩
 ·refine⟨(Question.mapNext n).cut (w.tape w.drawn (.mapNext n)),{w with drawn:=w.drawn+1},Nat.mod_lt _ a,by rw[if_neg h],⟨rfl,rfl,rfl⟩,rfl⟩
theorem Na{it:Value}{t:TypeId}{K:WK}{w:World}(h:UW it K w.heap):Wv P (Instr.next it false t) K w:=by
 unfold UW at h;split at h
 ·rename_i a
  obtain⟨M,m,j,f,s,hi,h⟩:=h;obtain⟨b,off,N⟩:=a;simp only at M hi h;subst M;rcases h with⟨rfl,Q⟩|⟨r,es,z,rfl,O,C,E,H⟩
  ·exact⟨_,w,by simp only[Instr.next,Sem.run_bind,yS hi,Result.andThen_ok,Sem.run_pure],Tame.refl w,Q⟩
  ·have v:(!f.isEmpty&& !es.isEmpty&&es.all (fun e=>decide (e.born≥s)))=false:=by
    rcases C with h|h|h<;>simp[h]
   obtain⟨left,i⟩:∃left,left=es.filter fun e=> !f.contains e.born:=⟨_,rfl⟩
   obtain⟨n,q⟩:∃n,n=left.filter (·.born<j):=⟨_,rfl⟩
   obtain⟨new,hnew⟩:∃new,new=left.filter (·.born≥j):=⟨_,rfl⟩
   obtain⟨d,g⟩:∃d:Array (Option MapEntry),d=(if n.isEmpty then #[none]else #[])++(n++new).map some:=⟨_,rfl⟩
   have D:0<d.size:=by
    rw[g];by_cases A:n.isEmpty=true
    ·simp[A];omega
    ·have:n.size≠0:=by simpa using A
     simp[A];omega
   obtain⟨k,F,S,y,L,J⟩:=H2 (P:=P) d.size D w;obtain⟨c,hc⟩:∃c,d[k]? =some c:=⟨d[k],Array.getElem?_eq_getElem S⟩;have I:F.heap[b]? =some (.mapIter (some r) j f s):=by rw[J];exact hi
   have o:(!f.isEmpty&& !es.isEmpty&&es.all fun x=>decide (x.born≥s))=false:=v
   cases c with
   |none=>
    refine⟨.tuple #[.bool false],F,?_,L,?_⟩
    ·simp only[Instr.next,Sem.run_bind,yS hi,Result.andThen_ok,Sem.run_pure,na O,o,dX,if_false,←i,←q,←hnew,←g,y,hc]
    ·rw[J]
     have u:n.isEmpty=true:=by
      have hm:none∈d:=qS hc;rw[g]at hm;by_cases A:n.isEmpty=true
      ·exact A
      ·simp[A]at hm
     refine E fun e R G=>?_
     cases hs:f.contains e.born with
     |true=>rfl
     |false=>
      have p:e∈n:=by
       rw[q,i];simp only[rz];exact⟨⟨by simpa using R,by rw[hs];rfl⟩,by simpa using G⟩
      rw[Array.isEmpty_iff]at u;rw[u]at p;simp at p
   |some e=>
    have p:e∈es∧f.contains e.born=false:=by
     have hm:some e∈d:=qS hc;have B:e∈left:=by
      rw[g]at hm;rw[Array.mem_append]at hm;rcases hm with hm|hm
      ·split at hm<;>simp at hm
      ·simp only[Array.mem_map,bQ.injEq,exists_eq_right,Array.mem_append]at hm
       rcases hm with hm|hm
       ·rw[q]at hm;exact(rz.1 hm).1
       ·rw[hnew]at hm;exact(rz.1 hm).1
     rw[i]at B;have:=rz.1 B;exact⟨this.1,by simpa using this.2⟩
    refine⟨.tuple #[.bool true,e.key,e.val],lK F (F.heap.setIfInBounds b (.mapIter (some r) j (f.push e.born) z)),?_,L.trans (fJ _ _),?_⟩
    ·simp only[Instr.next,Sem.run_bind,yS hi,Result.andThen_ok,Sem.run_pure,na O,o,dX,if_false,←i,←q,←hnew,←g,y,hc,Nw I]
    ·rw[J]
     exact H e (by simpa using p.1) p.2
 ·exact h.elim
theorem Jm{t e:TypeId}{z:List Value}{k k':IntKind}{l c:Int}{w:World}(u:yl P t=some e)(hz:sC P e=some z)(g:z.length=cy P e)(A:0≤l)(D:l≤c)(y:c≤9223372036854775807)(C:sN P e*c≤2^48):
  (Instr.makeSlice t (.int k l) (.int k' c)).run P w=.ok (.slice (some (aI w.heap)) l.toNat c.toNat) (lK w (hnew w.heap (eh c.toNat z) e)):=by
 obtain⟨v,hv,b⟩:=lJ hz;obtain⟨i,hi,B⟩:=tE hv;have d:cy P e=i.size:=by simp[cy,hi]
 have m:sN P e=i.bytes:=by simp[sN,hi]
 have o:v.cells.size=i.size:=by rw[←d,←g,←b];simp
 have q:=DY A (by omega);have hc:=DY (show 0≤c by omega) y
 rw[m]at C;have c1:¬(c<0):=by omega
 have c2:¬(281474976710656<(i.bytes:Int)*c):=by omega
 have s:¬(l<0):=by omega
 have p:¬(c<l):=by omega
 by_cases a:c.toNat*i.size=0
 ·have n:(eh c.toNat z).length=0:=by simp[eh,g,d,a]
  rw[aO.1 n];simp[Instr.makeSlice,aJ (eB u),asInt,asIntOf,dy hi,q,hc,c1,c2,s,p,sizeOf,a,lS]
 ·have f:((Array.range (c.toNat*i.size)).map (fun j=>v.cells[j%v.cells.size]!))=(eh c.toNat z).toArray:=by
   rw[←o,RB,b]
  have key:(newRow e ((Array.range (c.toNat*i.size)).map (fun j=>v.cells[j%v.cells.size]!))).run P w=.ok (aI w.heap) (lK w (hnew w.heap (eh c.toNat z) e)):=by
   rw[f,lS]
  simp[Instr.makeSlice,aJ (eB u),asInt,asIntOf,dy hi,q,hc,c1,c2,s,p,sizeOf,a,fR hv];rw[key];rfl
theorem Agree.args{N:Nat}{r:cV}{a:Act}(h:Agree N r a){os:Array Operand}{vs:List Value}(hv:po r os.toList=some vs):os.map a.eval=vs.toArray:=by
 rw[←nO h hv];apply dG;simp
theorem HC.out{f:FuncId}{args:List Value}{ks:List Kind}{K:WK}{w:World}(h:HC P f args ks (fun x h'=>K (FU ks (oA ks x)) h') w.heap):OG P (callFunc f args.toArray) K w:=by
 rcases h.run w rfl with⟨c,d⟩|⟨v,w',c,b,x,rfl,a⟩
 ·refine .inr (.inr (.inl ⟨f,args.toArray,c,d.mono ?_⟩))
  rintro e w' ⟨b,x,rfl,a⟩;exact⟨b,_,rfl,a⟩
 ·exact .inl ⟨_,w',c,b,a⟩
theorem Uf{b a e:TypeId}{s:ByteArray}{w:World}(j:P.underlying b=some .string)(hd:P.underlying a=some (.slice e))(g:P.underlying e=some (.int .u8)):
  ∃c,s.size≤c∧(convert b a (.string s)).run P w=.ok (.slice (some (aI w.heap)) s.size c) (lK w.drew (w.heap.push (.cells (eC s++eD (c-s.size) (Value.int .u8 0)).toArray e (c,c+1)))):=by
 have d:s.size≤grownCap w s.size 0 e:=rv _ _;refine⟨_,d,?_⟩;rw[Go.Lib.run_convert_string_bytes w b a e s j hd g];have hc:(Go.Lib.bytesCells w e s).size=grownCap w s.size 0 e:=by
  unfold Go.Lib.bytesCells;rw[Array.size_append,Array.size_map,Array.size_replicate,show s.data.size=s.size from rfl]
  omega
 have f:(eC s++eD (grownCap w s.size 0 e-s.size) (Value.int .u8 0)).toArray=Go.Lib.bytesCells w e s:=by
  unfold Go.Lib.bytesCells eC;apply dG;simp
 rw[f];unfold Go.Lib.bytesWorld World.freeze;rw[if_neg (by omega),hc];unfold World.alloc World.drew lK;congr 1
 congr 1
 apply Array.ext (by simp);intro i m k;rw[Array.getElem_modify];simp only[Array.getElem_push];split
 ·rename_i e
  subst e;simp
 ·rename_i e
  have hi:i<w.heap.size:=by simp at k;omega
  rw[dif_pos hi,dif_pos hi]
theorem D0{o:Oper}{r:cV}{K:WK}{w:World}{N:Nat}{a:Act}(F:Agree N r a)(j:I6 P o r K w.heap):OG P (execOp a.eval o) K w:=by
 have A:∀{x:Operand} {v:Value},dV r x=some v→a.eval x=v:=fun h=>lM F h
 obtain⟨Q,V,type,pp,G,E⟩:=o;cases V with
 |alloc t=>
  simp only[I6]at j;split at j
  ·rename_i z hz
   obtain⟨v,hv,R⟩:=lJ hz;have C:(Instr.alloc t true (.tuple #[])).run P w=.ok (.pointer (some (aI w.heap))) (lK w (hnew w.heap z t)):=by
    simp[Instr.alloc,fR hv,newVar,lS,R]
   exact Wv.out ⟨_,_,C,fJ _ _,j⟩
  ·exact j.elim
 |box t x=>
  simp only[I6]at j;split at j
  ·rename_i v hv
   have C:(Instr.box t v).run P w=.ok (.pointer (some (aI w.heap))) (lK w (hnew w.heap v.cells.toList t)):=by
    simp[Instr.box,newVar,lS]
   simp only[execOp,A hv];exact Wv.out ⟨_,_,C,fJ _ _,j⟩
  ·exact j.elim
 |build t ps=>
  simp only[I6]at j;split at j
  ·rename_i vs p
   split at j
   ·rename_i cs hcs
    have S:(ps.map fun x=>(x.1,a.eval x.2))=vs.toArray:=by
     rw[←qc F p];apply dG;simp
    have C:=C7 (ps:=vs.toArray) (by simpa using hcs) w;simp only[execOp];rw[show(ps.map fun(i,x)=>(i,a.eval x))=vs.toArray from S]
    exact Wv.out ⟨_,w,C,Tame.refl w,j⟩
   ·exact j.elim
  ·exact j.elim
 |buildSlice t n ps=>
  simp only[I6]at j;split at j
  ·rename_i e vs D p
   split at j
   ·rename_i z hz
    cases hb:(An (n*cy P e) 16777216&&bX z.length (cy P e))with
    |false=>rw[hb]at j;exact j.elim
    |true=>
     rw[hb]at j;simp only[bT]at hb;simp only[cond_true]at j;split at j
     ·rename_i cs hcs
      have S:(ps.map fun x=>(x.1,a.eval x.2))=vs.toArray:=by
       rw[←qc F p];apply dG;simp
      have C:=Ez (ps:=vs.toArray) D hz (j5 hb.1) (bC hb.2) (by simpa using hcs) w;simp only[execOp];rw[show(ps.map fun(i,x)=>(i,a.eval x))=vs.toArray from S]
      exact Wv.out ⟨_,_,C,fJ _ _,j⟩
     ·exact j.elim
   ·exact j.elim
  ·exact j.elim
 |store t x y=>
  simp only[I6]at j;split at j
  ·rename_i b v hb hv
   simp only[execOp,A hb,A hv];exact Wu.out (Ls j)
  ·exact j.elim
 |mapUpdate t m k x=>
  simp only[I6]at j;split at j
  ·rename_i mv kv xv hm B hx
   simp only[execOp,A hm,A B,A hx];exact Wu.out (AE j)
  ·exact j.elim
 |insert t m k x=>
  simp only[I6]at j;split at j
  ·rename_i mv kv xv hm B hx
   simp only[execOp,A hm,A B,A hx];exact Wu.out (AE j)
  ·exact j.elim
 |makeMap t n=>
  simp only[I6]at j;cases n with
  |none=>exact Wv.out ⟨_,lK w (w.heap.push (.map #[] 0)),by simp[Instr.makeMap];rfl,fJ _ _,j⟩
  |some n=>
   simp only at j;split at j
   ·rename_i k i hn D
    exact Wv.out ⟨_,lK w (w.heap.push (.map #[] 0)),by simp[Instr.makeMap,A hn,aJ D,asInt,asIntOf];rfl,fJ _ _,j⟩
   ·exact j.elim
 |makeSlice t l c=>
  simp only[I6]at j;split at j
  ·rename_i e k l' k' c' D I hc
   split at j
   ·rename_i z hz
    cases hb:bX z.length (cy P e)with
    |false=>rw[hb]at j;exact j.elim
    |true=>
     rw[hb]at j;obtain⟨⟨X,L,J,W⟩,j⟩:=j;simp only[execOp,A I,A hc];exact Wv.out ⟨_,_,Jm D hz (bC hb) X L J W,fJ _ _,j⟩
   ·exact j.elim
  ·exact j.elim
 |convert s d x=>
  simp only[I6]at j;split at j
  ·rename_i e v O hd hx
   cases hu:Qk P e with
   |false=>rw[hu]at j;exact j.elim
   |true=>
    rw[hu]at j;obtain⟨c,hc,H⟩:=Uf (w:=w) (s:=v) O hd (HB hu);simp only[execOp,A hx];exact Wv.out ⟨_,_,H,⟨rfl,rfl,rfl⟩,j c hc⟩
  ·exact j.elim
 |range t x=>
  simp only[I6]at j;split at j
  ·rename_i k e m hu hx
   obtain⟨M,hm,j⟩:=j;simp only[execOp,A hx];exact Wv.out ⟨_,_,Tt hu hm,fJ _ _,j⟩
  ·exact j.elim
 |next it isS=>
  cases isS with
  |true=>simp only[I6]at j
  |false=>
   simp only[I6]at j;split at j
   ·rename_i v hv
    simp only[execOp,A hv];exact Wv.out (Na j)
   ·exact j.elim
 |call c=>
  simp only[I6]at j;have eb:∀{b:Builtin} {vs:List Value},c.callee=.builtin b→po r c.args.toList=some vs→∃cs:Array Bool,∀w,(execOp a.eval ⟨Q,.call c,type,pp,G,E⟩).run P w=
    (builtin b c.argTypes type cs vs.toArray).run P w:=by
   intro b vs hc p;refine⟨c.args.map fun| .const _=>true|_=>false,fun w=>?_⟩
   simp[execOp,resolve,hc,F.args p,invoke];rfl
  have wo:∀{s s':Sem Next},(∀w,s.run P w=s'.run P w)→OG P s' K w→OG P s K w:=by
   intro s s' C h;unfold OG at h⊢;simp only[C];exact h
  split at j
  ·rename_i s x hc p
   split at j
   ·rename_i t u hat
    obtain⟨cs,er⟩:=eb hc p;refine wo er ?_;have q:c.argTypes= #[t,u]:=by apply dG;rw[hat]
    simp only[builtin,q];split at j
    ·rename_i e' hu;exact Wv.out (AF (.inl ⟨e',hu⟩) j)
    ·rename_i hu;exact Wv.out (AF (.inr hu) j)
    ·rename_i k0 hu;exact Wv.out (GH hu j)
    ·exact j.elim
   ·exact j.elim
  ·rename_i x hc p
   split at j
   ·rename_i t hat
    obtain⟨cs,er⟩:=eb hc p;refine wo er ?_;have q:c.argTypes= #[t]:=by apply dG;rw[hat]
    simp only[builtin,q];exact Wv.out (Lu j)
   ·exact j.elim
  ·rename_i s x hc p
   split at j
   ·rename_i t u hat
    obtain⟨cs,er⟩:=eb hc p;refine wo er ?_;have q:c.argTypes= #[t,u]:=by apply dG;rw[hat]
    simp only[builtin,q];exact Wv.out (Nb j)
   ·exact j.elim
  ·rename_i m k hc p
   split at j
   ·rename_i t u hat
    obtain⟨cs,er⟩:=eb hc p;refine wo er ?_;simp only[builtin];exact Wv.out (GF (by rw[←bR,hat];rfl) j)
   ·exact j.elim
  ·rename_i f args hc p
   unfold YN at j;split at j
   ·exact j.elim
   ·rename_i ks hks
    split at j
    ·rename_i f
     refine wo (s':=callFunc f args.toArray) (fun w=>?_) j.out
     simp[execOp,resolve,hc,F.args p,Act.eval,Deferred.ofValue,invoke]
    ·rename_i f hf
     split at j
     ·rename_i fv hfv
      rcases j.run with⟨g,first,cap,rfl,T⟩|⟨l,rfl,T⟩
      rotate_left
      ·obtain⟨fn,tmps,assign,body,L,J⟩:=T.run w rfl
       refine .inr (.inr (.inr ⟨l,fn,tmps,assign,body,?_,fun c cs=>?_⟩))
       ·rw[←L]
        simp[execOp,resolve,hc,F.args p,A hfv,Deferred.ofValue,invoke]
       ·obtain⟨b,w',D,B,O⟩:=J c cs
        refine⟨b,w',D,?_,O⟩;obtain⟨t,e,B⟩:=uk B;have I:ks.length=1:=by rw[←vi ks t,←e];rfl
        match ks,I,t,e,B with
        | [k],_,t,e,B=>rw[←e]at B;exact B
      refine wo (s':=callFunc g (first.toList++args++cap.toList).toArray) (fun w=>?_) T.out
      have e:first++args.toArray++cap=(first.toList++args++cap.toList).toArray:=by apply dG;simp
      rw[←e];simp[execOp,resolve,hc,F.args p,A hfv,Deferred.ofValue,invoke]
     ·exact j.elim
  ·exact j.elim
 |_=>simp only[I6]at j
end Go.Lift
