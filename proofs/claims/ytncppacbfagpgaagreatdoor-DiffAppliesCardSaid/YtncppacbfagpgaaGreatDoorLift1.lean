/- A part of the proof that the named laws of this program answer true, whatever the input. -/
import Derived.Test.YtncppacbfagpgaaGreatDoorLift0
import Derived.Laws.Append
import Derived.Laws.Cover3
import Derived.Laws.StructEq
import Derived.Laws.BytesString
import Derived.Lib.ConvBytes
open Array renaming ext'→dR,getElem?_toList→bX,mem_of_getElem?→si,mem_filter→tc
open Bool renaming and_eq_true→bK,false_eq_true→f9
open ByteArray renaming data_extract→mQ
open List renaming extract_eq_take_drop→gn,map_cons→fp,foldl_cons→jQ,map_map→rQ,take_of_length_le→bm,length_cons→ao,cons_append→cJ,replicate→fg,length_eq_zero_iff→ay,getElem?_eq_getElem→af
open Nat renaming beq→cd,add_assoc→lL,ble→AS,eq_of_beq_eq_true→bG,le_of_ble_eq_true→kN,add_zero→eN,zero_add→aR,le_add_right→sX,min→fa
open Option renaming some→bR,isSome_iff_exists→js,map_some→iG
open Prod renaming mk→qd
open UInt8 renaming ofNat→g6
namespace Go.Lift
open Go
def X4(S:Option (ae→Prop))(h:ae):Prop:=match S with|none=>True|some f=>f h
def Yv(P:Program)(s:Sem Value)(K:RK)(h:ae):Prop:=∃v S,K v S∧X4 S h∧∀w:World,X4 S w.heap→s.run P w=.ok v w
theorem Yv.of_pure{P:Program}{s:Sem Value}{K:RK}{h:ae}{v:Value}(b:K v none)(a:∀w:World,s.run P w=.ok v w):Yv P s K h:=
 ⟨v,none,b,trivial,fun w _=>a w⟩
variable {P:Program}
theorem zK{t:TypeId}{f:Nat}{u:TypeId}{off:Nat}(h:zM P t f=some (u,off)):
  ∃fs g,P.underlying t=some (.struct fs)∧fs[f]? =some g∧g.type=u∧g.offset=off:=by
 unfold zM at h;split at h
 ·rename_i fs hu
  split at h
  ·rename_i g hg
   simp only[bR.injEq,qd.injEq]at h;exact⟨fs,g,hu,by simpa using hg,h.1,h.2⟩
  ·cases h
 ·cases h
theorem B5{t:TypeId}(h:cd (cA P t) 0=false)(w:World):(sizeOf t).run P w=.ok (cA P t) w:=by
 unfold cA at h⊢;cases hi:P.info? t with
 |none=>rw[hi]at h;cases h
 |some i=>simp[sizeOf,dA hi]
theorem GQ{t:TypeId}{f:Nat}{u:TypeId}{off:Nat}{a:Addr}{K:RK}{h:ae}(j:zM P t f=some (u,off))
  (b:bif cd (cA P u) 0 then False else K (.pointer (some (adr a off))) none):Yv P (Instr.fieldAt t (.pointer (some a)) f) K h:=by
 obtain⟨k,g,i,d,rfl,rfl⟩:=zK j;cases hz:cd (cA P g.type) 0 with
 |true=>rw[hz]at b;exact b.elim
 |false=>
  rw[hz]at b;refine .of_pure b fun w=>?_
  have c:cA P g.type≠0:=fun e=>by rw[e]at hz;cases hz
  simp only[Instr.fieldAt,Sem.run_bind,aM i,Result.andThen_ok,d,Instr.sureAddr,Sem.run_pure,fieldPlace,B5 hz];simp[c,xh]
theorem yI{t:TypeId}{i:TypeInfo}(_:P.info? t=some i)(a:∃d,P.underlying t=some d)(w:World):(isAgg t).run P w=.ok (yJ P t) w:=by
 obtain⟨d,hd⟩:=a;simp only[isAgg,Sem.run_bind,aM hd,Result.andThen_ok];unfold yJ;rw[hd];cases d<;>rfl
theorem C7{c:BinOp}{k k':IntKind}{a b:Int}{K:RK}{h:ae}(f:c=.shl∨c=.shr)(hv:QP c k a b K):Yv P (Op.shift c k a k' b) K h:=by
 rcases f with rfl|rfl
 ·obtain⟨d,e⟩:=hv
  refine .of_pure e fun w=>?_
  simp[Op.shift,Int.not_lt.2 d]
 ·obtain⟨d,e⟩:=hv
  refine .of_pure e fun w=>?_
  simp[Op.shift,Int.not_lt.2 d]
theorem RF{c:BinOp}{k:IntKind}{a b:Int}{K:RK}{h:ae}(hv:aaf c k a b K)(f:c≠ .shl∧c≠ .shr):Yv P (binOp c 0 (.int k a) (.int k b)) K h:=by
 cases c<;>simp only[aaf]at hv
 case quo=>obtain⟨d,e⟩:=hv;exact .of_pure e fun w=>by simp[binOp,Op.intDiv,d]
 case rem=>obtain⟨d,e⟩:=hv;exact .of_pure e fun w=>by simp[binOp,Op.intDiv,d]
 all_goals exact .of_pure hv fun w=>by simp[binOp,Op.intArith,Op.intBits,Op.intCmp]
theorem Jf(c:BinOp)(t:TypeId)(k k':IntKind)(a b:Int):binOp c t (.int k a) (.int k' b)=binOp c 0 (.int k a) (.int k' b):=by
 cases c<;>rfl
theorem QM{c:BinOp}{t:TypeId}{a b:ByteArray}{K:RK}{h:ae}(hv:ZU c a b K):Yv P (binOp c t (.string a) (.string b)) K h:=by
 cases c<;>simp only[ZU]at hv
 case add=>
  obtain⟨e,d⟩:=hv;refine .of_pure d fun w=>?_
  have:¬(((a.size+b.size:Nat):Int)>IntKind.i64.max):=by
   have:IntKind.i64.max=9223372036854775807:=by decide
   omega
  simp only[binOp,Op.stringOp,if_neg this,Sem.run_pure]
 all_goals exact .of_pure hv fun w=>by simp[binOp,Op.stringOp]
theorem tS{t:TypeId}{x y:Value}{b:Bool}{w:World}(h:∀d,(Op.equalIn (d+1) t x y).run P w=.ok b w):(Op.equal t x y).run P w=.ok b w:=h 9999
theorem IQ{t:TypeId}{e:TypeId}(b:P.underlying t=some (.pointer e))(a:Option Addr)(w:World):(Op.equal t (.pointer a) (.pointer none)).run P w=.ok a.isNone w:=by
 refine tS fun d=>?_
 simp only[Op.equalIn,Sem.run_bind,aM b,Result.andThen_ok];cases a<;>rfl
theorem RS(e:BinOp)(t:TypeId)(x y:Operand)(a b:Value)(h:∀c d,a=.agg c→b=.agg d→False)(hi:a=.nilIface→b=.nilIface→False)(w:World):
  (eqGuard e t x y a b).run P w=.ok () w:=by
 cases e;case eql=>cases a<;>cases b<;>first|rfl|exact(hi rfl rfl).elim|exact(h _ _ rfl rfl).elim
 case neq=>cases a<;>cases b<;>first|rfl|exact(hi rfl rfl).elim|exact(h _ _ rfl rfl).elim
 all_goals rfl
theorem Vt(t:TypeId)(x y:Value)(hx:∀k a,x≠ .int k a)(c:∀s,x≠ .string s)(d:∀k a,x≠ .float k a)(hc:∀k a b,x≠ .complex k a b):binOp .eql t x y=(do pure (.bool (←Op.equal t x y))):=by
 cases x<;>first|rfl|exact absurd rfl (hx _ _)|exact absurd rfl (c _)|exact absurd rfl (d _ _)|exact absurd rfl (hc _ _ _)
theorem Vs(t:TypeId)(x y:Value)(hx:∀k a,x≠ .int k a)(c:∀s,x≠ .string s)(d:∀k a,x≠ .float k a)(hc:∀k a b,x≠ .complex k a b):binOp .neq t x y=(do pure (.bool (!(←Op.equal t x y)))):=by
 cases x<;>first|rfl|exact absurd rfl (hx _ _)|exact absurd rfl (c _)|exact absurd rfl (d _ _)|exact absurd rfl (hc _ _ _)
theorem tT{t:TypeId}{neg:Bool}{x y:Value}{b:Bool}{w:World}(d:(Op.equal t x y).run P w=.ok b w)
  (hx:∀k a,x≠ .int k a)(c:∀s,x≠ .string s)(e:∀k a,x≠ .float k a)(hc:∀k a b,x≠ .complex k a b):
  (binOp (bif neg then .neq else .eql) t x y).run P w=.ok (.bool (bif neg then !b else b)) w:=by
 cases neg
 ·simp only[cond_false,Vt t x y hx c e hc,Sem.run_bind,d,Result.andThen_ok,Sem.run_pure]
 ·simp only[cond_true,Vs t x y hx c e hc,Sem.run_bind,d,Result.andThen_ok,Sem.run_pure]
theorem Ik{t:TypeId}{neg:Bool}{x y:Value}{K:RK}{h:ae}(hv:YI P t neg x y K):
  (∀c d,x=.agg c→y=.agg d→False)∧(x=.nilIface→y=.nilIface→False)∧Yv P (binOp (bif neg then .neq else .eql) t x y) K h:=by
 unfold YI at hv;split at hv
 ·rename_i e a hu
  refine⟨nofun,nofun,.of_pure hv fun w=>?_⟩
  exact tT (IQ hu a w) nofun nofun nofun nofun
 ·rename_i k e a hu
  refine⟨nofun,nofun,.of_pure hv fun w=>?_⟩
  refine tT ?_ nofun nofun nofun nofun;refine tS fun d=>?_
  simp only[Op.equalIn,Sem.run_bind,aM hu,Result.andThen_ok];cases a<;>rfl
 ·rename_i e a _ _ _ _ hu
  refine⟨nofun,nofun,.of_pure hv fun w=>?_⟩
  refine tT ?_ nofun nofun nofun nofun;refine tS fun d=>?_
  simp only[Op.equalIn,Sem.run_bind,aM hu,Result.andThen_ok];cases a<;>rfl
 ·exact hv.elim
theorem zr{w:World}{a b:Addr}(d:gI w.heap a)(f:gI w.heap b):(sameAddr a b).run P w=.ok (a==b) w:=by
 obtain⟨g,o,d,y⟩:=d;obtain⟨j,s,f,z⟩:=f;by_cases c:a.block=b.block
 ·simp[sameAddr,c]
 ·have i:(a==b)=false:=by
   rw[beq_eq_false_iff_ne];intro e;exact c (by rw[e])
  have p:w.shape? a.block=some (o,g.size):=by simp[World.shape?,d]
  have k:w.shape? b.block=some (s,j.size):=by simp[World.shape?,f]
  have t:∀n,w.frozen? ({block:=a.block,off:=n}:Addr)=false:=fun n=>by simp[World.frozen?,d]
  have q:∀n,w.frozen? ({block:=b.block,off:=n}:Addr)=false:=fun n=>by simp[World.frozen?,f]
  have v:w.frozen? a=false:=by simp[World.frozen?,d]
  have u:w.frozen? b=false:=by simp[World.frozen?,f]
  obtain⟨m,hm⟩:∃m,g.size=m+1:=⟨g.size-1,by omega⟩
  obtain⟨n,x⟩:∃n,j.size=n+1:=⟨j.size-1,by omega⟩
  simp[sameAddr,c,noView,viewAt,mayBeOne,stringish,p,k,t,q,v,u,hm,x,i]
theorem Mc{t:TypeId}{neg:Bool}{x y:Value}{K:RK}{h:ae}(hv:abu P t neg x y K h):
  (∀c d,x=.agg c→y=.agg d→False)∧(x=.nilIface→y=.nilIface→False)∧Yv P (binOp (bif neg then .neq else .eql) t x y) K h:=by
 unfold abu at hv;split at hv
 ·rename_i a b hu
  refine⟨nofun,nofun,.of_pure hv fun w=>?_⟩
  refine tT ?_ nofun nofun nofun nofun;refine tS fun d=>?_
  simp only[Op.equalIn,Sem.run_bind,aM hu,Result.andThen_ok,Sem.run_pure]
 ·rename_i e a b hu
  obtain⟨i,n,k⟩:=hv;refine⟨nofun,nofun,_,_,k,n,fun w j=>?_⟩
  refine tT ?_ nofun nofun nofun nofun;have f:cd (cA P e) 0=false:=by
   cases hb:cd (cA P e) 0 with
   |false=>rfl
   |true=>rw[hb]at i;exact i.elim
  have g:cA P e≠0:=fun e=>by rw[e]at f;cases f
  refine tS fun d=>?_
  simp only[Op.equalIn,Sem.run_bind,aM hu,Result.andThen_ok];cases a with
  |none=>cases b<;>rfl
  |some a=>cases b with
   |none=>rfl
   |some b=>
    obtain⟨m,h2⟩:=j a b rfl rfl;simp only[Sem.run_bind,B5 f,Result.andThen_ok,ne_eq,g,not_false_eq_true,if_true,zr m h2];rfl
 ·exact hv.elim
theorem Ra{e:BinOp}{t:TypeId}{x y:Value}{K:RK}{h:ae}(hv:Z3 P e t x y K h):
  (∀c d,x=.agg c→y=.agg d→False)∧(x=.nilIface→y=.nilIface→False)∧Yv P (binOp e t x y) K h:=by
 unfold Z3 at hv;split at hv
 ·rename_i k a k' b
  refine⟨nofun,nofun,?_⟩;rw[Jf];split at hv
  ·exact C7 (k':=k') (.inl rfl) hv
  ·exact C7 (k':=k') (.inr rfl) hv
  ·rename_i h1 h2
   cases hk:Nl k' k with
   |false=>rw[hk]at hv;exact hv.elim
   |true=>rw[hk]at hv;have:=Ds hk;subst this;exact RF hv ⟨h1,h2⟩
 ·exact⟨nofun,nofun,QM hv⟩
 ·split at hv
  ·exact Mc (neg:=false) hv
  ·exact Mc (neg:=true) hv
  ·exact hv.elim
theorem Pc{u:TypeId}{cs:List Value}{off:Nat}(a:((P.underlying u).isSome&&(P.info? u).isSome)=true){w:World}(c:yJ P u=true):
  (part u cs.toArray off).run P w=.ok (.agg ((cs.drop off).take (cA P u)).toArray) w:=by
 simp only[bK,js]at a;obtain⟨a,i,hi⟩:=a;have b:(sizeOf u).run P w=.ok (cA P u) w:=by simp[sizeOf,dA hi,cA,hi]
 simp only[part,Sem.run_bind,yI hi a,Result.andThen_ok,c,if_true,b,Sem.run_pure];congr 2
 apply dR;simp[gn]
theorem LH{u:TypeId}{cs:List Value}{off:Nat}(a:((P.underlying u).isSome&&(P.info? u).isSome)=true){w:World}(c:yJ P u=false){v:Value}(hc:cs[off]? =some v):
  (part u cs.toArray off).run P w=.ok v w:=by
 simp only[bK,js]at a;obtain⟨a,i,hi⟩:=a;have b:cs.toArray[off]? =some v:=by simpa using hc
 simp only[part,Sem.run_bind,yI hi a,Result.andThen_ok,c,f9,if_false,b,Sem.run_pure]
theorem Cb{h:ae}:∀{l m:List (Option Addr×Option Addr)},uh h (l++m)→uh h l∧uh h m
 | [],_,h=>⟨trivial,h⟩
 |(_,_)::_,_,h=>⟨⟨h.1,(Cb h.2).1⟩,(Cb h.2).2⟩
theorem PH{t:TypeId}{x y:Value}{b:Bool}{l:List (Option Addr×Option Addr)}(f:Xe P t x y=some (b,l)){w:World}(i:uh w.heap l)(d:Nat):
  (Op.equalIn (d+1) t x y).run P w=.ok b w:=by
 unfold Xe at f;split at f
 ·rename_i k0 k a k' c hu
  cases hk:Nl k' k with
  |false=>rw[hk]at f;cases f
  |true=>
   rw[hk]at f;have:=Ds hk;subst this;cases f;exact run_equalIn_int w d t _ _ _ _ hu
 ·rename_i a c hu
  cases f;exact run_equalIn_bool w d t _ _ hu
 ·rename_i a c hu
  cases f;exact run_equalIn_string w d t _ _ hu
 ·rename_i e a c hu
  cases hz:cd (cA P e) 0 with
  |true=>rw[hz]at f;cases f
  |false=>
   rw[hz]at f;cases f;have g:cA P e≠0:=fun e=>by rw[e]at hz;cases hz
   simp only[Op.equalIn,Sem.run_bind,aM hu,Result.andThen_ok];cases a with
   |none=>cases c<;>rfl
   |some a=>cases c with
    |none=>rfl
    |some c=>
     obtain⟨j,h2⟩:=i.1 a c rfl rfl;simp only[Sem.run_bind,B5 hz,Result.andThen_ok,ne_eq,g,not_false_eq_true,if_true,zr j h2];rfl
 ·cases f
theorem IR{rec:TypeId→List Value→List Value→Option (Bool×List (Option Addr×Option Addr))}{d:Nat}{xs ys:List Value}{w:World}
  (e:∀t us vs b l,rec t us vs=some (b,l)→uh w.heap l→(Op.equalIn (d+1) t (.agg us.toArray) (.agg vs.toArray)).run P w=.ok b w):
  ∀(fs:List Field) (b:Bool) (l:List (Option Addr×Option Addr)),Y1 P rec xs ys fs=some (b,l)→uh w.heap l→(Op.eqFields (d+1) xs.toArray ys.toArray fs).run P w=.ok b w
 | [],b,l,he,_=>by cases he;rfl
 |f::fs,b,l,he,hp=>by
  unfold Y1 at he;split at he
  ·cases he
  ·rename_i hn
   cases hi:((P.underlying f.type).isSome&&(P.info? f.type).isSome)with
   |false=>rw[hi]at he;cases he
   |true=>
    rw[hi]at he;simp only[cond_true]at he;split at he
    ·rename_i b1 l1 c m e1 e2
     cases he;obtain⟨g,k⟩:=Cb hp;have a:=IR e fs c m e2 k;have n:∃u v,(part f.type xs.toArray f.offset).run P w=.ok u w∧(part f.type ys.toArray f.offset).run P w=.ok v w∧(Op.equalIn (d+1) f.type u v).run P w=.ok b1 w:=by
      cases ha:yJ P f.type with
      |true=>
       rw[ha]at e1;exact⟨_,_,Pc hi ha,Pc hi ha,e _ _ _ _ _ e1 g⟩
      |false=>
       rw[ha]at e1;simp only[cond_false]at e1;split at e1
       ·rename_i x y hx hy
        exact⟨x,y,LH hi ha hx,LH hi ha hy,PH e1 g d⟩
       ·cases e1
     obtain⟨u,v,j,o,i⟩:=n;simp only[Op.eqFields,ne_eq,hn,not_false_eq_true,if_true,Sem.run_bind,j,o,i,Result.andThen_ok];cases b1
     ·rfl
     ·exact a
    ·cases he
theorem Cp{w:World}:∀(m:Nat) (t:TypeId) (xs ys:List Value) (b:Bool) (l:List (Option Addr×Option Addr)),Xf P m t xs ys=some (b,l)→uh w.heap l→
  ∀d,(Op.equalIn (d+m+1) t (.agg xs.toArray) (.agg ys.toArray)).run P w=.ok b w
 |0,_,_,_,_,_,he,_,_=>by cases he
 |m+1,t,xs,ys,b,l,he,hp,d=>by
  unfold Xf at he;split at he
  ·rename_i fs hu
   cases hs:P.stoodInHeld t with
   |true=>rw[hs]at he;cases he
   |false=>
    rw[hs]at he;have a:P.fieldsOf t=fs:=by simp[Program.fieldsOf,hu]
    rw[run_equalIn_struct w _ t _ _ (by rw[a];exact hu) hs,a];exact IR (d:=d+m) (fun t c vs b l e h2=>Cp m t c vs b l e h2 d) fs.toList b l he hp
  ·cases he
theorem Md{neg b:Bool}{K:RK}{h:ae}{l:List (Option Addr×Option Addr)}(a:abX neg b K h l):∃S,K (.bool (bif neg then !b else b)) S∧X4 S h∧∀h',X4 S h'→uh h' l:=by
 cases l with
 |nil=>exact⟨none,a,trivial,fun _ _=>trivial⟩
 |cons p l=>exact⟨_,a.2,a.1,fun _ h=>h⟩
theorem Rb{f:BinOp}{t:TypeId}{xs ys:Array Value}{x y:Operand}{K:RK}{h:ae}(a:Z5 P f t xs.toList ys.toList K h):
  ∃v S,K v S∧X4 S h∧∀w:World,X4 S w.heap→(do eqGuard f t x y (.agg xs) (.agg ys);binOp f t (.agg xs) (.agg ys):Sem Value).run P w=.ok v w:=by
 unfold Z5 at a;cases hg:P.eqGuardType P.depth t with
 |true=>rw[hg]at a;exact a.elim
 |false=>
  rw[hg]at a;simp only[cond_false]at a;split at a
  ·split at a
   ·rename_i b l he
    obtain⟨S,e,h2,c⟩:=Md a;refine⟨_,S,e,h2,fun w d=>?_⟩
    have:=Cp 10 t _ _ b l he (c _ d) 9989;simp only[Array.toArray_toList]at this;simp only[Sem.run_bind,run_eqGuard_agg w _ t x y _ _ hg,Result.andThen_ok,run_eql_struct,this];rfl
   ·exact a.elim
  ·split at a
   ·rename_i b l he
    obtain⟨S,e,h2,c⟩:=Md a;refine⟨_,S,e,h2,fun w d=>?_⟩
    have:=Cp 10 t _ _ b l he (c _ d) 9989;simp only[Array.toArray_toList]at this;simp only[Sem.run_bind,run_eqGuard_agg w _ t x y _ _ hg,Result.andThen_ok,run_neq_struct,this];rfl
   ·exact a.elim
  ·exact a.elim
theorem UE{a:UnOp}{x:Value}{K:RK}{h:ae}(hv:abH a x K):Yv P (Op.unary a x) K h:=by
 unfold abH at hv;split at hv
 ·exact .of_pure hv fun w=>rfl
 ·exact .of_pure hv fun w=>rfl
 ·exact .of_pure hv fun w=>rfl
 ·exact hv.elim
theorem I6:∀(l:List UInt8) (s:ByteArray),(l.map fun b=>((b.toNat:Nat):Int)).foldl (fun r n=>r.push (g6 n.toNat)) s=⟨s.data++l.toArray⟩
 | [],s=>by simp
 |b::l,s=>by
  simp only[fp,jQ];rw[I6 l];congr 1
  have:g6 ((b.toNat:Nat):Int).toNat=b:=by simp
  rw[this];apply dR;simp[ByteArray.push]
theorem IA{e:TypeId}(h:RD P e=true):P.underlying e=some (.int .u8):=by
 unfold RD at h;split at h
 ·assumption
 ·cases h
theorem OM{w:World}{a:Addr}{vs:List Value}(b:Row w.heap a vs):(loadCells a vs.length).run P w=.ok vs.toArray w:=by
 have:=run_firstCells_some (P:=P) w 1 vs.length a 0 0 vs (by simp) fun j v hv=>by rw[←xh];exact b j v hv
 simpa[Builtin.firstCells]using this
theorem O4{f g:TypeId}{x:Value}{K:RK}{h:ae}(hv:WH P f g x K h):Yv P (convert f g x) K h:=by
 unfold WH at hv;split at hv
 ·rename_i k k' k'' n h1 h2
  exact .of_pure hv fun w=>by simp only[convert,Sem.run_bind,aM h1,aM h2,Result.andThen_ok];rfl
 ·rename_i s h1 h2
  exact .of_pure hv fun w=>by simp only[convert,Sem.run_bind,aM h1,aM h2,Result.andThen_ok];rfl
 ·rename_i e a n c h1 h2
  cases hu:RD P e with
  |false=>rw[hu]at hv;exact hv.elim
  |true=>
   rw[hu]at hv;obtain⟨s,t,u⟩:=hv;refine⟨_,_,u,t,fun w m=>?_⟩
   rw[run_convert_bytes_string w f g e a n c h1 (IA hu) h2];obtain⟨p,m⟩:=m;rcases m with o|⟨b,rfl,q⟩
   ·have j:s=ByteArray.empty:=by
     have:s.data.toList= []:=by simpa[eo]using o
     cases s with
     |mk d=>simp at this;subst this;rfl
    cases a with
    |none=>rw[j];rfl
    |some b=>
     have y:n=0:=by rw[←p,o];rfl
     subst y;have:=OM (P:=P) (w:=w) (a:=b) (vs:= []) fun i v hv=>by simp at hv
     rw[run_bytesToString w b 0 c [] (by simpa using this),j];rfl
   ·have:=OM (P:=P) q
    rw[p]at this;rw[run_bytesToString w b n c (s.data.toList.map fun b=>((b.toNat:Nat):Int)) (by rw[this,rQ];rfl),I6]
    cases s;simp[ByteArray.empty,ByteArray.emptyWithCapacity];try rfl
 ·exact hv.elim
theorem Rl{u:TypeId}{cs:Array Value}{off:Nat}{K:RK}{h:ae}(b:∃d,P.underlying u=some d)(hi:∃i,P.info? u=some i)
  (hv:bif yJ P u then K (.agg ((cs.toList.drop off).take (cA P u)).toArray) none else(match cs.toList[off]? with|some v=>K v none|none=>False)):Yv P (part u cs off) K h:=by
 obtain⟨i,hi⟩:=hi;cases ha:yJ P u with
 |true=>
  rw[ha]at hv;refine .of_pure hv fun w=>?_
  have c:(sizeOf u).run P w=.ok (cA P u) w:=by simp[sizeOf,dA hi,cA,hi]
  simp only[part,Sem.run_bind,yI hi b,Result.andThen_ok,ha,if_true,c,Sem.run_pure];congr 2
  apply dR;simp[gn]
 |false=>
  rw[ha]at hv;simp only[cond_false]at hv;cases hc:cs.toList[off]? with
  |none=>rw[hc]at hv;exact hv.elim
  |some v=>
   rw[hc]at hv;refine .of_pure hv fun w=>?_
   have a:cs[off]? =some v:=by simpa using hc
   simp only[part,Sem.run_bind,yI hi b,Result.andThen_ok,ha,f9,if_false,a,Sem.run_pure]
def zi(P:Program)(v:Option Value)(d y n:Nat):Prop:=
 match v with
 |some x=>∀c w,(Instr.sliceBound x y c).run P w=.ok n w
 |none=>n=d
theorem oX{v:Option Value}{d y:Nat}{K:Nat→Prop}(hv:Xv v d y K):∃n,K n∧zi P v d y n:=by
 unfold Xv at hv;split at hv
 ·exact⟨d,hv,rfl⟩
 ·rename_i k i
  obtain⟨⟨a,b⟩,e⟩:=hv;refine⟨i.toNat,e,fun c w=>?_⟩
  simp[Instr.sliceBound,asIntOf,a,b]
 ·exact hv.elim
theorem sy{c:Bool}{len cap n l:Nat}{lo hi:Option Value}(a:zi P hi len cap n)(b:zi P lo 0 n l)(w:World):
  (Instr.sliceBounds c len cap lo hi none).run P w=.ok (l,n,cap) w:=by
 cases hi with
 |none=>
  cases lo with
  |none=>simp only[zi]at a b;subst a;subst b;simp[Instr.sliceBounds]
  |some lo=>simp only[zi]at a b;subst a;simp[Instr.sliceBounds,b]
 |some hi=>
  cases lo with
  |none=>simp only[zi]at a b;subst b;simp[Instr.sliceBounds,a]
  |some lo=>simp only[zi]at a b;simp[Instr.sliceBounds,a,b]
theorem EL{c:Bool}{len cap n l m:Nat}{lo:Option Value}{hi d:Value}(hm:zi P (some d) 0 cap m)(b:zi P (some hi) 0 m n)(a:zi P lo 0 n l)(w:World):
  (Instr.sliceBounds c len cap lo (some hi) (some d)).run P w=.ok (l,n,m) w:=by
 cases lo with
 |none=>simp only[zi]at hm b a;subst a;simp[Instr.sliceBounds,hm,b]
 |some lo=>simp only[zi]at hm b a;simp[Instr.sliceBounds,hm,b,a]
theorem BX(a:Option Addr)(l m size:Nat):(if m=l then a else a.map (·.add (l*size)))=bh a l m size:=by
 unfold bh;split
 ·rfl
 ·congr 1;funext x;rw[xh]
theorem sC{t:TypeId}{K:Prop}(h:WR P t K):K∧∀w,(sizeOf t).run P w=.ok (cA P t) w:=by
 unfold WR at h;cases hi:P.info? t with
 |none=>rw[hi]at h;exact h.elim
 |some i=>rw[hi]at h;exact⟨h,fun w=>by simp[sizeOf,dA hi,cA,hi]⟩
theorem M6{t:TypeId}{x:Value}{f:Nat}{K:RK}{h:ae}(hv:Q7 P t x f K):Yv P (Instr.field t x f) K h:=by
 unfold Q7 at hv;split at hv
 ·rename_i u off cs hf
  obtain⟨j,g,i,c,rfl,rfl⟩:=zK hf;cases hb:((P.underlying g.type).isSome&&(P.info? g.type).isSome)with
  |false=>rw[hb]at hv;exact hv.elim
  |true=>
   rw[hb]at hv;simp only[bK,js]at hb;obtain⟨v,S,e,a,b⟩:=Rl (cs:=cs) (off:=g.offset) (h:=h) hb.1 hb.2 hv;refine⟨v,S,e,a,fun w d=>?_⟩
   have:=b w d;simp only[Instr.field,Sem.run_bind,aM i,Result.andThen_ok,c,asAgg,Sem.run_pure,this]
 ·exact hv.elim
theorem EV{t:TypeId}{x i:Value}{K:RK}{h:ae}(hv:Ca P t x i K):Yv P (Instr.indexAt t x i) K h:=by
 unfold Ca at hv;split at hv
 ·rename_i n e a k i hu
  obtain⟨⟨⟨c,f⟩,g⟩,d⟩:=sC hv;refine .of_pure g fun w=>?_
  simp[Instr.indexAt,asIntOf,aM hu,Instr.sureAddr,c,f,d,xh]
 ·rename_i e b len cap k i hu
  obtain⟨⟨⟨c,f⟩,a,rfl,g⟩,d⟩:=sC hv;refine .of_pure g fun w=>?_
  simp[Instr.indexAt,asIntOf,aM hu,c,f,d,xh]
 ·exact hv.elim
theorem M4{t:TypeId}{x i:Value}{K:RK}{h:ae}(hv:Q6 P t x i K):Yv P (Instr.index t x i) K h:=by
 unfold Q6 at hv;split at hv
 ·rename_i s k i hu
  obtain⟨b,a,c,d⟩:=hv;refine .of_pure d fun w=>?_
  simp[Instr.index,asIntOf,aM hu,a,c]
 ·exact hv.elim
theorem M2{t:TypeId}{x:Value}{lo hi d:Option Value}{K:RK}{h:ae}(hv:Q3 P t x lo hi d K):Yv P (Instr.sliceAt t x lo hi d) K h:=by
 unfold Q3 at hv;split at hv
 ·rename_i s hu
  cases d with
  |some _=>exact hv.elim
  |none=>
   obtain⟨n,hv,b⟩:=oX (P:=P) hv;obtain⟨l,hv,c⟩:=oX (P:=P) hv;refine .of_pure hv fun w=>?_
   simp[Instr.sliceAt,Instr.slice,aM hu,sy b c]
 ·rename_i e a len cap hu
  obtain⟨hv,f⟩:=sC hv;cases d with
  |none=>
   obtain⟨n,hv,b⟩:=oX (P:=P) hv;obtain⟨l,hv,c⟩:=oX (P:=P) hv;refine .of_pure hv fun w=>?_
   simp[Instr.sliceAt,Instr.slice,aM hu,sy b c,f,BX]
  |some m=>
   cases hi with
   |none=>exact hv.elim
   |some hi=>
    obtain⟨i,hv,hm⟩:=oX (P:=P) hv;obtain⟨n,hv,b⟩:=oX (P:=P) hv;obtain⟨l,hv,c⟩:=oX (P:=P) hv;refine .of_pure hv fun w=>?_
    simp[Instr.sliceAt,Instr.slice,aM hu,EL hm b c,f,BX]
 ·rename_i n e a hu
  obtain⟨hv,f⟩:=sC hv;cases d with
  |some _=>exact hv.elim
  |none=>
   obtain⟨m,hv,b⟩:=oX (P:=P) hv;obtain⟨l,hv,c⟩:=oX (P:=P) hv;refine .of_pure hv fun w=>?_
   have g:(some (if n=l then a else a.add (l*cA P e)))=bh (some a) l n (cA P e):=by
    rw[←BX];split<;>rfl
   simp[Instr.sliceAt,aM hu,Instr.sureAddr,sy b c,f,g]
 ·exact hv.elim
def rB(d:TypeDesc)(c:CK):Prop:=(∃i,d=.int i∧c=.int i)∨(d=.string∧c=.str)∨(d=.bool∧c=.bool)
theorem zD{t:TypeId}{c:CK}{e:TypeId}(h:Pn P t=some (c,e)):∃k d,P.underlying t=some (.map k e)∧P.underlying k=some d∧rB d c:=by
 unfold Pn at h;split at h
 ·rename_i k e' hu
  split at h
  ·rename_i i hk
   simp only[bR.injEq,qd.injEq]at h;obtain⟨rfl,rfl⟩:=h;exact⟨k,_,hu,hk,.inl ⟨i,rfl,rfl⟩⟩
  ·rename_i hk
   simp only[bR.injEq,qd.injEq]at h;obtain⟨rfl,rfl⟩:=h;exact⟨k,_,hu,hk,.inr (.inl ⟨rfl,rfl⟩)⟩
  ·rename_i hk
   simp only[bR.injEq,qd.injEq]at h;obtain⟨rfl,rfl⟩:=h;exact⟨k,_,hu,hk,.inr (.inr ⟨rfl,rfl⟩)⟩
  ·cases h
 ·cases h
theorem F0{d:TypeDesc}{c:CK}(hd:rB d c)(x y:c.den):Instr.sameNow d (c.enc x) (c.enc y)=some (jy (c.enc x) (c.enc y)):=by
 rcases hd with⟨i,rfl,rfl⟩|⟨rfl,rfl⟩|⟨rfl,rfl⟩
 ·simp[Instr.sameNow,CK.enc,jy]
 ·simp[Instr.sameNow,CK.enc,jy]
 ·simp[Instr.sameNow,CK.enc,jy]
theorem Gi{d:TypeDesc}{c:CK}(hd:rB d c)(x:c.den):∀(es:List MapEntry) (i:Nat),Iy c es→
  ∃r,Instr.findNow d (c.enc x) es i=some r∧r.map (·.2)=PE (c.enc x) es
 | [],i,_=>⟨none,rfl,rfl⟩
 |e::es,i,h=>by
  obtain⟨y,f⟩:=h e (by simp);have a:=F0 hd x y;rw[←f]at a;simp only[Instr.findNow,PE];cases hb:jy (c.enc x) e.key with
  |true=>rw[a,hb];exact⟨some (i,e.val),rfl,rfl⟩
  |false=>rw[a,hb];exact Gi hd x es (i+1) fun g b=>h g (by simp[b])
theorem PO{a:Bool}{k:TypeId}{d:TypeDesc}{c:CK}(hd:rB d c)(b:P.underlying k=some d)(v:Value)(n:Nat)(w:World):(Instr.checkKey a (n+1) k v).run P w=.ok () w:=by
 unfold Instr.checkKey;simp only[Sem.run_bind,aM b,Result.andThen_ok];rcases hd with⟨i,rfl,rfl⟩|⟨rfl,rfl⟩|⟨rfl,rfl⟩<;>rfl
theorem yo{k:TypeId}{d:TypeDesc}{c:CK}(hd:rB d c)(b:P.underlying k=some d)(x:c.den){es:List MapEntry}(h:Iy c es)(w:World):
  ∃r,(Instr.findKey k (c.enc x) es).run P w=.ok r w∧Instr.findNow d (c.enc x) es 0=some r∧r.map (·.2)=PE (c.enc x) es:=by
 obtain⟨r,a,hm⟩:=Gi hd x es 0 h;refine⟨r,?_,a,hm⟩;simp only[Instr.findKey,Sem.run_bind,aM b,Result.andThen_ok,a,Sem.run_pure]
theorem oa{w:World}{r:Nat}{es:Array MapEntry}{a:Nat}(h:w.heap[r]? =some (.map es a)):(getObj r).run P w=.ok (.map es a) w:=by
 simp only[getObj,Sem.run,h]
theorem pQ{a:Bool}{k:TypeId}{d:TypeDesc}{c:CK}(hd:rB d c)(b:P.underlying k=some d)(v:Value)(w:World):(Instr.checkKey a 10000 k v).run P w=.ok () w:=
 PO hd b v 9999 w
theorem Ru{t:TypeId}{c:CK}{e k:TypeId}{d:TypeDesc}(n:P.underlying t=some (.map k e))(f:P.underlying k=some d)(hd:rB d c){m:Option Nat}{x:c.den}{z v:Value}{b ok:Bool}{w:World}
  (o:(zeroValue e).run P w=.ok z w)(hm:Sr c z w.heap m (c.enc x) v b):
  (Instr.lookup t (.map m) (c.enc x) ok).run P w=.ok (bif ok then .tuple #[v,.bool b]else v) w:=by
 cases m with
 |none=>
  obtain⟨rfl,rfl⟩:=hm;simp only[Instr.lookup,Sem.run_bind,aM n,Result.andThen_ok,Sem.run_pure,pQ hd f];obtain⟨r,i,h2,a⟩:=yo (P:=P) hd f x (es:= []) (fun _ h=>by cases h) w
  simp only[Instr.findNow,bR.injEq]at h2;subst h2;simp[i,o]
 |some r=>
  obtain⟨es,j,p,g,hv⟩:=hm;simp only[Instr.lookup,Sem.run_bind,aM n,Result.andThen_ok,oa p,Sem.run_pure,pQ hd f];obtain⟨r,i,h2,a⟩:=yo (P:=P) hd f x g w;simp only[i,Result.andThen_ok];cases r with
  |none=>
   simp only[Option.map_none]at a;rw[←a]at hv;obtain⟨rfl,rfl⟩:=hv;simp[o]
  |some r=>
   simp only[iG]at a;rw[←a]at hv;obtain⟨rfl,rfl⟩:=hv;cases ok<;>rfl
theorem gb{e:TypeId}{z:Value}(h:Bh P e=some z)(w:World):(zeroValue e).run P w=.ok z w:=by
 unfold Bh at h;cases hi:P.info? e with
 |none=>rw[hi]at h;cases h
 |some i=>rw[hi]at h;simp only at h;simp[zeroValue,dA hi,h]
theorem Km{t:TypeId}{x k:Value}{ok:Bool}{K:RK}{h:ae}(hv:M3 P t x k ok K h):Yv P (Instr.lookup t x k ok) K h:=by
 unfold M3 at hv;split at hv
 ·rename_i c e m hc
  obtain⟨j,d,i,f,hd⟩:=zD hc;obtain⟨n,rfl,hv⟩:=CK.dec_sound hv;split at hv
  ·rename_i ek z hek hz
   obtain⟨y,b,hm,g⟩:=hv;exact⟨_,_,g,hm,fun w a=>Ru i f hd (gb hz w) a⟩
  ·exact hv.elim
 ·exact hv.elim
theorem Q5{t:TypeId}{x:Value}{ats:Array TypeId}{ty:TypeId}{K:RK}{h:ae}(a:ats[0]? =some t) (hv:ZZ P t x K h):Yv P (Builtin.len_ ats ty #[x]) K h:=by
 unfold ZZ at hv;split at hv
 ·rename_i s hu
  exact .of_pure hv fun w=>by simp[Builtin.len_,a,aM hu,goInt]
 ·rename_i n e _ hu
  exact .of_pure hv fun w=>by simp[Builtin.len_,a,aM hu,goInt]
 ·rename_i e b n c hu
  exact .of_pure hv fun w=>by simp[Builtin.len_,a,aM hu,goInt]
 ·rename_i k e m hu
  obtain⟨n,hm,i⟩:=hv;refine⟨_,_,i,hm,fun w f=>?_⟩
  cases m with
  |none=>
   have:n=0:=f;subst this;simp[Builtin.len_,a,aM hu,goInt]
  |some r=>
   obtain⟨es,d,g,rfl⟩:=f;simp[Builtin.len_,a,aM hu,goInt,oa g]
 ·exact hv.elim
theorem Q9{t:TypeId}{x:Value}{ats:Array TypeId}{ty:TypeId}{K:RK}{h:ae}(a:ats[0]? =some t) (hv:Z0 P t x K):Yv P (Builtin.cap_ ats ty #[x]) K h:=by
 unfold Z0 at hv;split at hv
 ·rename_i e b n c hu
  exact .of_pure hv fun w=>by simp[Builtin.cap_,a,aM hu,goInt]
 ·exact hv.elim
theorem Dk{c:Bool}{k:IntKind}:∀{vs:List Value} {a:Int} {f:Value→Prop},Nh c k a vs f→∃v,f v∧∀w,(vs.foldlM (bif c then Builtin.max2 else Builtin.min2) (Value.int k a):Sem Value).run P w=.ok v w
 | [],a,f,h=>⟨_,h,fun w=>by simp⟩
 | .int k' b::vs,a,f,h=>by
  simp only[Nh]at h;cases hk:Nl k' k with
  |false=>rw[hk]at h;exact h.elim
  |true=>
   rw[hk]at h;have:=Ds hk;subst this;obtain⟨v,e,d⟩:=Dk h;refine⟨v,e,fun w=>?_⟩
   rw[←d w];cases c<;>simp[List.foldlM_cons,Builtin.max2,Builtin.min2]
theorem Bp{a:Bool}{vs:List Value}{f:Value→Prop}{ats:Array TypeId}{ty:TypeId}(h:Hj a vs f):∃v,f v∧∀w,(bif a then Builtin.max_ ats ty vs.toArray else Builtin.min_ ats ty vs.toArray).run P w=.ok v w:=by
 unfold Hj at h;split at h
 ·obtain⟨v,c,b⟩:=Dk (P:=P) h
  refine⟨v,c,fun w=>?_⟩
  have:=b w;cases a<;>simpa[Builtin.max_,Builtin.min_]using this
 ·exact h.elim
theorem Vc{a:Addr}{e:MapEntry}{w:World}(j:a.off=0)(h:Ss w.heap a.block e):(Instr.entry (.pointer (some a))).run P w=.ok (.tuple #[e.key,e.val]) w:=by
 obtain⟨m,c,d,f,g,es,hi,k,hm,n⟩:=h;obtain⟨b,off,i⟩:=a;simp only at j hi;subst j;have o:(getObj b).run P w=.ok (.mapIter (some m) c d f) w:=by simp only[getObj,Sem.run,hi]
 simp[Instr.entry,o,k,oa hm,n]
def K3:DV→Value→Prop
 | .t,v=>v=.bool true
 | .f,v=>v=.bool false
 | .u,v=>v=undef
 | .x,_=>True
def DecOk(d:x9)(r:cX):Prop:=∀t,uC d t=.x∨∃v,mq r t=some v∧K3 (uC d t) v
theorem DecOk.at{d:x9}{r:cX}(h:DecOk d r){t:Nat}{v:Value}(hv:mq r t=some v):K3 (uC d t) v:=by
 rcases h t with e|⟨u,a,b⟩
 ·rw[e];trivial
 ·rw[hv]at a;cases a;exact b
theorem xE{d:x9}{r:cX}(hd:DecOk d r){o:Operand}{v:Value}(h:eH r o=some v):K3 (DE d o) v:=by
 cases o with
 |tmp t=>exact hd.at h
 |const c=>
  simp[eH]at h;subst h;cases c with
  |bool b=>cases b<;>exact rfl
  |_=>trivial
 |global g=>trivial
 |func f=>trivial
theorem Gc{t:TypeId}(h:tH P t=true):∃d,P.underlying t=some d∧∀m,d≠ .interface m:=by
 unfold tH at h;split at h
 ·cases h
 ·rename_i d hd;exact⟨_,hd,fun m e=>by subst e;simp_all⟩
 ·cases h
theorem Dm{t:TypeId}{v:Value}(h:tH P t=true)(w:World):(Instr.makeInterface t v).run P w=.ok (.iface t v) w:=by
 obtain⟨d,hd,a⟩:=Gc h;simp only[Instr.makeInterface,Sem.run_bind,aM hd,Result.andThen_ok];cases d<;>first|exact absurd rfl (a _)|rfl
theorem HH{t u:TypeId}{v:Value}(h:tH P t=true)(w:World):(Instr.typeAssert (.iface t v) u t false).run P w=.ok v w:=by
 obtain⟨d,hd,a⟩:=Gc h;simp only[Instr.typeAssert,Sem.run_bind,aM hd,Result.andThen_ok];cases d<;>first|exact absurd rfl (a _)|(simp[Sem.run_pure])
theorem mo{t:TypeId}{z:List Value}(h:uc P t=some z):∃v,Bh P t=some v∧v.cells.toList=z:=by
 unfold uc at h;cases hz:Bh P t with
 |none=>rw[hz]at h;cases h
 |some v=>rw[hz]at h;simp only[bR.injEq]at h;exact⟨v,rfl,h⟩
theorem uO{t:TypeId}{v:Value}(h:Bh P t=some v):∃i,P.info? t=some i∧i.zero=some v:=by
 unfold Bh at h;cases hi:P.info? t with
 |none=>rw[hi]at h;cases h
 |some i=>rw[hi]at h;exact⟨i,rfl,h⟩
theorem Xj{A B:List Value}{x:Value}{m:Nat}(h:A.length=m):(A++x::B).take (m+1)=A++ [x]:=by
 subst h;rw[List.take_append,bm (by omega),show A.length+1-A.length=1 by omega];rfl
theorem Xl{A B:List Value}{x:Value}{m n:Nat}(h:A.length=m):(A++x::B).drop (m+1+n)=B.drop n:=by
 subst h;rw[List.drop_append,List.drop_eq_nil_of_le (by omega),show A.length+1+n-A.length=n+1 by omega];rfl
theorem PB(off:Nat):∀(xs:List Value) (k:Nat) (arr:Array Value),off+k+xs.length≤arr.size→
  (xs.zipIdx k).foldl (fun cs (c,j)=>cs.setIfInBounds (off+j) c) arr=(O8 arr.toList (off+k) xs).toArray
 | [],k,arr,_=>by simp[O8]
 |x::xs,k,arr,h=>by
  simp only[ao]at h;simp only[List.zipIdx_cons,jQ];rw[PB off xs (k+1) _ (by simp;omega)];have hm:off+k<arr.toList.length:=by simp;omega
  have b:arr.toList.set (off+k) x=arr.toList.take (off+k)++x::arr.toList.drop (off+k+1):=by
   rw[List.set_eq_take_append_cons_drop,if_pos hm]
  have a:(arr.toList.take (off+k)).length=off+k:=by simp;omega
  congr 1
  unfold O8;rw[Array.toList_setIfInBounds,b,←lL,Xj a,Xl a];simp only[List.append_assoc,cJ,List.nil_append,ao,List.drop_drop];rw[show off+k+1+xs.length=off+k+(xs.length+1) by omega]
theorem wa{a:Nat→Option (Nat×Nat)}:∀(parts:List (Nat×Value)) (cs cs':List Value),Gj a cs parts=some cs'→Instr.fill a cs.toArray parts=some cs'.toArray
 | [],cs,cs',h=>by simp only[Gj,bR.injEq]at h;subst h;rfl
 |(i,v)::rest,cs,cs',h=>by
  simp only[Gj]at h;cases hp:a i with
  |none=>rw[hp]at h;cases h
  |some os=>
   obtain⟨off,size⟩:=os;rw[hp]at h;simp only at h;cases hb:(cd v.cells.toList.length size&&AS (off+v.cells.toList.length) cs.length)with
   |false=>rw[hb]at h;cases h
   |true=>
    rw[hb]at h;simp only[bK]at hb;have d:=bG hb.1;have h2:=kN hb.2;have c:=wa rest _ _ h;have b:v.cells.size=size:=by simpa using d
    have f:off+v.cells.size≤cs.length:=by simpa using h2
    have e:Array.foldl (fun cs x=>cs.setIfInBounds (off+x.2) x.1) cs.toArray v.cells.zipIdx=(O8 cs off v.cells.toList).toArray:=by
     have:=PB off v.cells.toList 0 cs.toArray (by simpa using f);simp only[eN]at this;rw[←this,←Array.foldl_toList];congr 1
     simp[Array.toList_zipIdx]
    simp only[Instr.fill,hp];rw[if_neg (by simp[b];omega)];simp only[e];exact c
theorem qZ{N:Nat}{r:cX}{a:Act}(h:Agree N r a):∀{ps:List (Nat×Operand)} {vs:List (Nat×Value)},tG r ps=some vs→ps.map (fun p=>(p.1,a.eval p.2))=vs
 | [],vs,hv=>by simp[tG]at hv;subst hv;rfl
 |(i,o)::ps,vs,hv=>by
  simp only[tG]at hv;cases ho:eH r o with
  |none=>simp[ho]at hv
  |some v=>cases hos:tG r ps with
   |none=>simp[ho,hos]at hv
   |some us=>simp[ho,hos]at hv;subst hv;simp[oc h ho,qZ h hos]
theorem tN{t:TypeId}(h:AI P t=true)(w:World):(sizeOf t).run P w=.ok (cA P t) w:=by
 unfold AI at h;cases hi:P.info? t with
 |none=>rw[hi]at h;cases h
 |some i=>simp[sizeOf,dA hi,cA,hi]
theorem Ie(w:World):∀l:List Field,DP P l=true→(l.mapM fun f:Field=>((do pure (f.offset,←sizeOf f.type)):Sem (Nat×Nat))).run P w=.ok (l.map fun f:Field=>(f.offset,cA P f.type)) w
 | [],_=>rfl
 |f::l,h=>by
  simp only[DP]at h;cases hf:AI P f.type with
  |false=>rw[hf]at h;cases h
  |true=>
   rw[hf]at h;rw[List.mapM_cons];simp only[Sem.run_bind,tN hf,Result.andThen_ok,Sem.run_pure,Ie w l h,fp]
theorem DN{t:TypeId}{ps:Array (Nat×Value)}{cs:List Value}(a:NJ P t ps.toList=some cs)(w:World):
  (Instr.build t ps).run P w=.ok (.agg cs.toArray) w:=by
 unfold NJ at a;split at a
 ·rename_i fs z hu d
  obtain⟨v,d,hv⟩:=mo d;cases ha:DP P fs.toList with
  |false=>rw[ha]at a;cases a
  |true=>
   rw[ha]at a;have j:(fs.mapM fun f:Field=>((do pure (f.offset,←sizeOf f.type)):Sem (Nat×Nat))).run P w=.ok (fs.map fun f:Field=>(f.offset,cA P f.type)) w:=by
    rw[Array.mapM_eq_mapM_toList];simp only[Sem.run_map,Ie w fs.toList ha,Result.andThen_ok];congr 1
    apply dR;simp
   have g:=wa _ _ _ a;have b:(fun i:Nat=>(fs.map fun f:Field=>(f.offset,cA P f.type))[i]?)=Rf P fs.toList:=by
    funext i;unfold Rf;rw[Array.getElem?_map,bX];cases fs[i]?<;>rfl
   have c:v.cells=z.toArray:=by rw[←hv]
   rw[cond_true]at a;rw[←b]at g;simp only[Instr.build,Sem.run_bind,gb d,Result.andThen_ok,aM hu,j,c,g,Sem.run_pure]
 ·rename_i n e z hu d
  obtain⟨v,d,hv⟩:=mo d;cases ha:AI P e with
  |false=>rw[ha]at a;cases a
  |true=>
   rw[ha]at a;have g:=wa _ _ _ a;have c:v.cells=z.toArray:=by rw[←hv]
   simp only[Instr.build,Sem.run_bind,gb d,Result.andThen_ok,aM hu,tN ha,c,g,Sem.run_pure]
 ·cases a
theorem LD{ek:Option (Kind×Kind)}{o:Oper}{r:cX}{K:RK}{h:ae}{N:Nat}{a:Act}(Q:Agree N r a)(g:EU P ek o.op r K h)(d:x9)(hd:DecOk d r):
  ∃v S,K v S∧X4 S h∧K3 (Ol d o.op) v∧∀w:World,X4 S w.heap→(execOp a.eval o).run P w=.ok (.value v) w:=by
 have j:∀{x:Operand} {v:Value},eH r x=some v→a.eval x=v:=fun h=>oc Q h
 have z:∀{s:Sem Value},Yv P s K h→Ol d o.op=.x→(∀w,(execOp a.eval o).run P w=(do pure (Next.value (←s)):Sem Next).run P w)→
   ∃v S,K v S∧X4 S h∧K3 (Ol d o.op) v∧∀w:World,X4 S w.heap→(execOp a.eval o).run P w=.ok (.value v) w:=by
  rintro s ⟨v,S,n,B,A⟩ hx F;exact⟨v,S,n,B,by rw[hx];trivial,fun w D=>by rw[F w];exact kS (A w D)⟩
 obtain⟨R,M,type,qk,H,G⟩:=o;simp only at g z⊢;cases M with
 |move x=>
  simp only[EU]at g;split at g
  ·rename_i v hv
   exact⟨v,none,g,trivial,xE hd hv,fun w _=>by simp[execOp,j hv]⟩
  ·exact g.elim
 |assign x=>
  simp only[EU]at g;split at g
  ·rename_i v hv
   exact⟨v,none,g,trivial,xE hd hv,fun w _=>by simp[execOp,j hv]⟩
  ·exact g.elim
 |pick c x y=>
  simp only[EU]at g;split at g
  ·rename_i vc va vb hc hx T
   unfold Zt at g;split at g
   ·rename_i cb
    have J:=xE hd hc;have U:=xE hd hx;have X:=xE hd T;have F:∀w,(execOp a.eval ⟨R,.pick c x y,type,qk,H,G⟩).run P w=.ok (.value (if cb then va else vb)) w:=fun w=>by
     simp[execOp,j hc,j hx,j T,asBool]
    have I:K3 (Ol d (.pick c x y)) (if cb then va else vb):=by
     simp only[Ol];cases hcd:DE d c with
     |t=>
      rw[hcd]at J;have:cb=true:=by simpa[K3]using J
      subst this;exact U
     |f=>
      rw[hcd]at J;have:cb=false:=by simpa[K3]using J
      subst this;exact X
     |u=>trivial
     |x=>trivial
    split at g
    ·rename_i bx by'
     have O:(if cb=true then Value.bool bx else Value.bool by')=.bool (bif cb then bx else by'):=by cases cb<;>rfl
     rw[O]at I;exact⟨_,none,g,trivial,I,fun w _=>by rw[F w,O]⟩
    ·cases cb
     ·exact⟨_,none,g,trivial,I,fun w _=>F w⟩
     ·exact⟨_,none,g,trivial,I,fun w _=>F w⟩
   ·exact g.elim
  ·exact g.elim
 |load t x=>
  simp only[EU]at g;split at g
  ·rename_i v hv
   obtain⟨u,S,n,B,A⟩:=F5 g;exact z ⟨u,some S,n,B,A⟩ rfl fun w=>by simp only[execOp,j hv]
  ·exact g.elim
 |nilCheck x=>
  simp only[EU]at g;split at g
  ·rename_i p hv
   obtain⟨b,rfl,n⟩:=g;exact⟨_,none,n,trivial,trivial,fun w _=>by simp[execOp,j hv]⟩
  ·exact g.elim
 |binOp M t x y yt=>
  simp only[EU]at g;split at g
  ·rename_i v u hv hu
   obtain⟨W,S,n,B,A⟩:=Rb (x:=x) (y:=y) g;refine⟨W,S,n,B,trivial,fun w D=>?_⟩
   simp only[execOp,j hv,j hu];exact kS (A w D)
  ·rename_i v u hna hv hu
   have go:(∀c d,v=.agg c→u=.agg d→False)∧(v=.nilIface→u=.nilIface→False)∧Yv P (binOp M t v u) K h:=by
    split at g
    ·exact Ik (neg:=false) g
    ·exact Ik (neg:=true) g
    ·exact Ra g
   obtain⟨h1,h2,W,S,n,B,A⟩:=go;refine⟨W,S,n,B,trivial,fun w D=>?_⟩
   simp only[execOp,j hv,j hu];simp[RS M t x y v u h1 h2 w,A w D]
  ·exact g.elim
 |unOp M t x=>
  simp only[EU]at g;split at g
  ·rename_i v hv
   obtain⟨u,S,n,B,A⟩:=UE (P:=P) (h:=h) g;refine⟨u,S,n,B,?_,fun w D=>by simp only[execOp,j hv];exact kS (A w D)⟩
   have L:=xE hd hv;cases M<;>try trivial
   simp only[Ol];have C:=A {(default:World)with heap:=h} B;cases hx:DE d x with
   |t=>
    rw[hx]at L;have:v=.bool true:=L;subst this;simp[Op.unary]at C;exact C.symm
   |f=>
    rw[hx]at L;have:v=.bool false:=L;subst this;simp[Op.unary]at C;exact C.symm
   |u=>trivial
   |x=>trivial
  ·exact g.elim
 |convert s t x=>
  simp only[EU]at g;split at g
  ·rename_i v hv
   exact z (O4 g) rfl fun w=>by simp only[execOp,j hv]
  ·exact g.elim
 |extract x i=>
  simp only[EU]at g;split at g
  ·rename_i vs hv
   split at g
   ·rename_i u hu
    have Z:vs[i]? =some u:=by simpa using hu
    exact⟨u,none,g,trivial,trivial,fun w _=>by simp[execOp,j hv,Instr.extract,Z]⟩
   ·exact g.elim
  ·exact g.elim
 |fieldAddr t x f=>
  simp only[EU]at g;split at g
  ·rename_i b u off hv hf
   exact z (GQ hf g) rfl fun w=>by simp only[execOp,j hv]
  ·exact g.elim
 |field t x f=>
  simp only[EU]at g;split at g
  ·rename_i v hv
   exact z (M6 g) rfl fun w=>by simp only[execOp,j hv]
  ·exact g.elim
 |indexAddr t x i=>
  simp only[EU]at g;split at g
  ·rename_i v u hv hu
   exact z (EV g) rfl fun w=>by simp only[execOp,j hv,j hu]
  ·exact g.elim
 |index t x i=>
  simp only[EU]at g;split at g
  ·rename_i v u hv hu
   exact z (M4 g) rfl fun w=>by simp only[execOp,j hv,j hu]
  ·exact g.elim
 |slice t x lo hi mx=>
  simp only[EU]at g;split at g
  ·rename_i v l h' m hv hl hh hm
   have Y:∀{x:Option Operand} {v:Option Value},LJ r x=some v→x.map a.eval=v:=by
    intro x v hx;cases x with
    |none=>simp[LJ]at hx;subst hx;rfl
    |some x=>
     simp only[LJ]at hx;cases F:eH r x with
     |none=>simp[F]at hx
     |some u=>simp[F]at hx;subst hx;simp[j F]
   exact z (M2 g) rfl fun w=>by simp only[execOp,j hv,Y hl,Y hh,Y hm]
  ·exact g.elim
 |lookup t x k ok=>
  simp only[EU]at g;split at g
  ·rename_i v u hv hu
   exact z (Km g) rfl fun w=>by simp only[execOp,j hv,j hu]
  ·exact g.elim
 |makeInterface t x=>
  simp only[EU]at g;split at g
  ·rename_i v hv
   cases hb:tH P t with
   |false=>rw[hb]at g;exact g.elim
   |true=>
    rw[hb,cond_true]at g;exact⟨_,none,g,trivial,trivial,fun w _=>by simp only[execOp,j hv];exact kS (Dm hb w)⟩
  ·exact g.elim
 |typeAssert x u t ok=>
  simp only[EU]at g;split at g
  ·rename_i v hv
   cases ok with
   |true=>exact g.elim
   |false=>
    rw[cond_false]at g;unfold Tt at g;cases hb:tH P t with
    |false=>rw[hb]at g;exact g.elim
    |true=>
     rw[hb,cond_true]at g;split at g
     ·obtain⟨y,rfl,n⟩:=g
      exact⟨_,none,n,trivial,trivial,fun w _=>by simp only[execOp,j hv];exact kS (HH hb w)⟩
     ·exact g.elim
  ·exact g.elim
 |makeFunc fn first cap=>
  simp only[EU]at g;split at g
  ·rename_i vs us hv hu
   have O:=qX Q hv;have e2:=qX Q hu;refine⟨_,none,g,trivial,trivial,fun w _=>?_⟩
   have V:first.map a.eval=vs.toArray:=by rw[←O];apply dR;simp
   have f2:cap.map a.eval=us.toArray:=by rw[←e2];apply dR;simp
   simp[execOp,Instr.makeFunc,V,f2]
  ·exact g.elim
 |entry it=>
  simp only[EU]at g;split at g
  ·rename_i b kk vk hv
   obtain⟨h0,e,x,y,hi,n,T,hK⟩:=g;refine⟨_,_,hK,hi,trivial,fun w D=>?_⟩
   simp only[execOp,j hv];refine kS ?_;rw[Vc h0 D,n,T]
  ·exact g.elim
 |call c=>
  simp only[EU]at g;have E:∀{b:Builtin} {vs:List Value},c.callee=.builtin b→ue r c.args.toList=some vs→∃cs:Array Bool,∀w,(execOp a.eval ⟨R,.call c,type,qk,H,G⟩).run P w=
    (builtin b c.argTypes type cs vs.toArray).run P w:=by
   intro b vs hc q;have O:=qX Q q;have V:c.args.map a.eval=vs.toArray:=by rw[←O];apply dR;simp
   refine⟨c.args.map fun| .const _=>true|_=>false,fun w=>?_⟩
   simp[execOp,resolve,hc,V,invoke];rfl
  split at g
  ·rename_i v t hc q hat
   obtain⟨cs,E⟩:=E hc q;obtain⟨u,S,n,B,A⟩:=Q5 (ats:=c.argTypes) (ty:=type) (by rw[←bX,hat];rfl) g;exact⟨u,S,n,B,trivial,fun w D=>by rw[E w];simp only[builtin];exact kS (A w D)⟩
  ·rename_i v t hc q hat
   obtain⟨cs,E⟩:=E hc q;obtain⟨u,S,n,B,A⟩:=Q9 (h:=h) (ats:=c.argTypes) (ty:=type) (by rw[←bX,hat];rfl) g;exact⟨u,S,n,B,trivial,fun w D=>by rw[E w];simp only[builtin];exact kS (A w D)⟩
  ·rename_i vs hc q
   obtain⟨cs,E⟩:=E hc q;obtain⟨u,n,A⟩:=Bp (P:=P) (ats:=c.argTypes) (ty:=type) g;exact⟨u,none,n,trivial,trivial,fun w _=>by rw[E w];simp only[builtin];exact kS (A w)⟩
  ·rename_i vs hc q
   obtain⟨cs,E⟩:=E hc q;obtain⟨u,n,A⟩:=Bp (P:=P) (ats:=c.argTypes) (ty:=type) g;exact⟨u,none,n,trivial,trivial,fun w _=>by rw[E w];simp only[builtin];exact kS (A w)⟩
  ·exact g.elim
 |build t ps=>
  simp only[EU]at g;split at g
  ·rename_i vs q
   split at g
   ·rename_i cs hcs
    refine⟨_,none,g,trivial,trivial,fun w _=>?_⟩
    have hp:(ps.map fun x=>(x.1,a.eval x.2))=vs.toArray:=by
     rw[←qZ Q q];apply dR;simp
    have F:=DN (ps:=vs.toArray) (by simpa using hcs) w;simp only[execOp];rw[show(ps.map fun(i,x)=>(i,a.eval x))=vs.toArray from hp]
    exact kS F
   ·exact g.elim
  ·exact g.elim
 |_=>simp only[EU]at g
end Go.Lift
namespace Go.Lift
open Go
variable {P:Program}
def PZ(P:Program)(s:Sem Next)(K:WK)(w:World):Prop:=
 (∃v a,s.run P w=.ok (.value v) a∧Tame w a∧K v a.heap)∨
 (∃a,s.run P w=.ok .skip a∧Tame w a∧K undef a.heap)∨
 (∃f args,s.run P w=.ok (.enter f args) w∧Calls P f args w fun e a=>Tame w a∧∃v,e=.returned v∧K v a.heap)∨
 (∃l fn tmps assign body,s.run P w=.ok (.round l fn tmps assign body) w∧
  ∀(c:Frame) (cs:List Frame),∃b a,Tame w a∧K (.bool b) a.heap∧Steps P (lone (Frame.round l fn tmps assign body .normal) (c::cs) w) (lone (c.finish (.bool b)) cs a))
def Wv(P:Program)(s:Sem Value)(K:WK)(w:World):Prop:=∃v w',s.run P w=.ok v w'∧Tame w w'∧K v w'.heap
theorem Wv.out{s:Sem Value}{K:WK}{w:World}(h:Wv P s K w):PZ P (do pure (Next.value (←s))) K w:=by
 obtain⟨v,a,c,b,d⟩:=h;exact .inl ⟨v,a,kS c,b,d⟩
def Wu(P:Program)(s:Sem Unit)(K:WK)(w:World):Prop:=∃w',s.run P w=.ok () w'∧Tame w w'∧K undef w'.heap
theorem Wu.out{s:Sem Unit}{K:WK}{w:World}(h:Wu P s K w):PZ P (do s;pure Next.skip) K w:=by
 obtain⟨a,c,b,d⟩:=h;exact .inr (.inl ⟨a,Ww c,b,d⟩)
def mp(w:World)(h:ae):World:={w with heap:=h}
theorem fS(w:World)(h:ae):Tame w (mp w h):=⟨rfl,rfl,rfl⟩
theorem mA(e:TypeId)(cs:Array Value)(w:World):(newRow e cs).run P w=.ok (aF w.heap) (mp w (hnew w.heap cs.toList e)):=by
 simp[newRow,newObj,Sem.run,aF,mp,hnew,bind,Sem.bind,pure]
theorem H1(o:Obj)(w:World):(newObj o).run P w=.ok w.heap.size (mp w (w.heap.push o)):=rfl
theorem Kt{h:ae}{a b:Addr}(v:Value)(c:a≠b):aP (hset h a v) b=aP h b:=
 World.cell?_setCell_other {(default:World)with heap:=h} a b v c
theorem GP{h:ae}{a:Addr}{u:Value}(v:Value)(hc:aP h a=some u):aP (hset h a v) a=some v:=
 World.cell?_setCell_same {(default:World)with heap:=h} a v hc
theorem Np{h:ae}{a b:Addr}(v:Value):Hn (hset h a v) b=Hn h b:=
 World.frozen?_setCell {(default:World)with heap:=h} a b v
theorem Wr.hset{h:ae}{a b:Addr}(v:Value)(f:Wr h b):Wr (hset h a v) b:=by
 obtain⟨⟨u,c⟩,d⟩:=f;refine⟨?_,by rw[Np];exact d⟩
 by_cases e:a=b
 ·subst e;exact⟨v,GP v c⟩
 ·exact⟨u,by rw[Kt v e];exact c⟩
theorem QX{w:World}{a:Addr}{v:Value}(hv:∀cs,v≠ .agg cs)(c:∀cs,v≠ .tuple cs)(e:Wr w.heap a):(store a v).run P w=.ok () (mp w (hset w.heap a v)):=by
 obtain⟨⟨u,f⟩,g⟩:=e;have d:w.cell? a=some u:=f;have b:w.frozen? a=false:=g;cases v<;>first|exact absurd rfl (hv _)|exact absurd rfl (c _)|(simp only[store,Sem.run,d,b];rfl)
theorem Ng{v:Value}{vs:List Value}(h:cG (v::vs)=true):(∀cs,v≠ .agg cs)∧(∀cs,v≠ .tuple cs)∧cG vs=true:=by
 simp only[cG,bK]at h;refine⟨fun cs e=>?_,fun cs e=>?_,h.2⟩<;>(subst e;exact absurd h.1 (by simp))
theorem ve{a:Addr}:∀(vs:List Value) (i:Nat) (w:World),cG vs=true→(∀j,j<vs.length→Wr w.heap (adr a (i+j)))→
  (storeCells a vs i).run P w=.ok () (mp w (iP w.heap a i vs))
 | [],i,w,_,_=>rfl
 |v::vs,i,w,b,hw=>by
  obtain⟨e,f,b⟩:=Ng b;have c:=hw 0 (by simp);simp only[eN]at c;have d:a.add i=adr a i:=(xh a i).symm;simp only[storeCells,d,Sem.run_bind,QX e f c,Result.andThen_ok];rw[ve vs (i+1) (mp w (hset w.heap (adr a i) v)) b fun j g=>?_]
  ·rfl
  ·have:=hw (j+1) (by simp only[ao];omega)
   rw[show i+1+j=i+(j+1) by omega]
   exact this.hset v
theorem L2{a:Addr}(m:Nat):∀(vs:List Value) (i:Nat) (h:ae),iP h (adr a m) i vs=iP h a (m+i) vs
 | [],_,_=>rfl
 |v::vs,i,h=>by
  simp only[iP];rw[L2 m vs (i+1),DS];rfl
theorem MF{t:TypeId}{a v:Value}{K:WK}{w:World}(c:QG P t a v K w.heap):Wu P (Instr.storeAt t a v) K w:=by
 unfold QG at c;split at c
 ·rename_i a
  cases hb:(cd v.cells.toList.length (cA P t)&&cG v.cells.toList)with
  |false=>rw[hb]at c;exact c.elim
  |true=>
   rw[hb]at c;simp only[bK]at hb;have o:=bG hb.1;obtain⟨c,n⟩:=sC c;have g:v.cells.size=cA P t:=by simpa using o
   have m:(∀j,j<v.cells.toList.length→Wr w.heap (adr a (0+j)))→(Instr.storeAt t (.pointer (some a)) v).run P w=.ok () (mp w (iP w.heap a 0 v.cells.toList)):=by
    intro d;have:=ve (P:=P) v.cells.toList 0 w hb.2 d;simp[Instr.storeAt,Instr.sureAddr,storeVar,n,g,this]
   split at c
   ·rename_i u hu
    obtain⟨d,i⟩:=c;refine⟨_,m (fun j f=>?_),fS _ _,?_⟩
    ·rw[hu]at f;simp only[ao,List.length_nil]at f
     obtain rfl:j=0:=by omega
     exact d
    ·rw[hu];exact i
   ·obtain⟨d,i⟩:=c
    refine⟨_,m (fun j f=>?_),fS _ _,i⟩
    rcases d with e|⟨b,k,d⟩
    ·rw[e]at f;cases f
    ·cases k;exact d j f
 ·exact c.elim
theorem lX(z:Array Value)(n:Nat):(Builtin.zeroCells z n).toList=eh n z.toList:=by
 have key:∀n,(List.range (n*z.size)).map (fun i=>z[i%z.size]!)=(fg n z.toList).flatten:=by
  intro n;induction n with
  |zero=>simp
  |succ n ih=>
   rw[Nat.succ_mul,List.range_add,List.map_append,ih,List.replicate_succ',List.flatten_append];congr 1
   simp only[rQ,List.flatten_cons,List.flatten_nil,List.append_nil];apply List.ext_getElem
   ·simp
   ·intro i a h2
    simp only[List.length_map,List.length_range]at a;simp[Nat.mod_eq_of_lt a,a,Nat.add_mod]
 simpa[Builtin.zeroCells,eh]using key n
theorem eM{t e:TypeId}(h:yW P t=some e):P.underlying t=some (.slice e):=by
 unfold yW at h;split at h
 ·rename_i e' hu;simp only[bR.injEq]at h;subst h;exact hu
 ·cases h
theorem S4{z:Value}{n:Nat}:((Array.range (n*z.cells.size)).map (z.cells[· %z.cells.size]!))=(eh n z.cells.toList).toArray:=by
 have:=lX z.cells n;unfold Builtin.zeroCells at this;apply dR;rw[this]
theorem Fj{t e:TypeId}{n:Nat}{ps:Array (Nat×Value)}{z cs:List Value}(p:yW P t=some e)(q:uc P e=some z)(s:n*cA P e≤16777216)(j:z.length=cA P e)
  (m:Gj (fun i=>some (i*cA P e,cA P e)) (eh n z) ps.toList=some cs)(w:World):
  (Instr.buildSlice t n ps).run P w=.ok (.slice (some (aF w.heap)) n n) (mp w (hnew w.heap cs e)):=by
 obtain⟨v,hv,c⟩:=mo q;obtain⟨i,hi,o⟩:=uO hv;have k:(sizeOf e).run P w=.ok (cA P e) w:=by simp[sizeOf,dA hi,cA,hi]
 have d:v.cells.size=cA P e:=by rw[←j,←c];simp
 have g:=wa _ _ _ m;have a:((Array.range (n*cA P e)).map (fun i=>(if n*cA P e=0 then #[]else v.cells)[i%(if n*cA P e=0 then #[]else v.cells).size]!))=(eh n z).toArray:=by
  by_cases b:n*cA P e=0
  ·have:(eh n z).length=0:=by simp[eh,j,b]
   rw[ay.1 this];simp[b]
  ·simp only[if_neg b]
   rw[←d,S4,c]
 have f:¬(n*cA P e>2^24):=by omega
 simp only[Instr.buildSlice,Sem.run_bind,aM (eM p),Result.andThen_ok,k,if_neg f];by_cases b:n*cA P e=0
 ·simp only[if_pos b]at a
  simp only[if_pos b,Sem.run_bind,Sem.run_pure,Result.andThen_ok,a,g,mA]
 ·simp only[if_neg b]at a
  simp only[if_neg b,Sem.run_bind,Sem.run_pure,Result.andThen_ok,gb hv,a,g,mA]
theorem Uy{h:ae}{a:Addr}{vs:List Value}(b:Row h a vs):∀j v,vs[j]? =some v→aP h (a.add j)=some v:=fun j v hv=>by
 rw[←xh];exact b j v hv
theorem Ax{size n cap len:Nat}{b:Option Addr}{vs:List Value}{w:World}(c:SRow w.heap b (n*size) vs):(Builtin.firstCells size n (.slice b len cap)).run P w=.ok vs.toArray w:=by
 obtain⟨d,a⟩:=c;cases b with
 |none=>
  rcases a with rfl|⟨_,h,_⟩
  ·simp[Builtin.firstCells]
  ·cases h
 |some b=>
  refine run_firstCells_some w size n b len cap vs d fun j v hv=>?_
  rcases a with rfl|⟨_,h,a⟩
  ·cases hv
  ·cases h;exact Uy a j v hv
theorem HO{a:Addr}{m:Nat}{xs:List Value}{w:World}(f:cG xs=true)(c:u6 w.heap (some a) m xs):
  (storeCells (a.add m) xs).run P w=.ok () (mp w (iP w.heap a m xs)):=by
 rcases c with rfl|⟨b,d,c⟩
 ·rfl
 ·cases d
  have:=ve (P:=P) (a:=adr a m) xs 0 w f fun j e=>by rw[DS,aR];exact c j e
  rw[←xh,this,L2,eN]
set_option maxHeartbeats 1000000 in
theorem Ji{t e u ty:TypeId}{b:Option Addr}{sl f d:Nat}{xs:List Value}{x:Value}{K:WK}{w:World}(B:yW P t=some e)(k:(∃y,P.underlying u=some (.slice y))∨P.underlying u=some .string)
  (g:∀w,(Builtin.lenOf x).run P w=.ok d w)(hx:∀w':World,w'.heap=w.heap→(Builtin.firstCells (cA P e) d x).run P w'=.ok xs.toArray w')
  (hi:∃i,P.info? e=some i)
  (h:XD P e b sl f d xs K w.heap):Wv P (Builtin.append_ #[t,u] ty #[.slice b sl f,x]) K w:=by
 obtain⟨i,hi⟩:=hi;have j:cA P e=i.size:=by simp[cA,hi]
 have A:ul P e=i.bytes:=by simp[ul,hi]
 by_cases hc:sl+d≤f
 ·obtain⟨J,L,E⟩:=h.1 hc
  refine⟨_,_,?_,fS w (gX w.heap b (sl*cA P e) xs),E⟩;cases b with
  |none=>
   have c:=hx w rfl;rw[j]at c;rcases k with⟨y,hd⟩|hd<;>(simp[Builtin.append_,aM (eM B),aM hd,sizeOf,dA hi,g,hc,c];rfl)
  |some a=>
   have s:=HO (P:=P) L J;have c:=hx w rfl;rw[j]at s c;rcases k with⟨y,hd⟩|hd<;>(simp[Builtin.append_,aM (eM B),aM hd,sizeOf,dA hi,g,hc,c,s,gX,j])
 ·obtain⟨o,z,N,M,C,F,E⟩:=h.2 (by omega)
  obtain⟨v,hv,D⟩:=mo M;obtain⟨O,q,I⟩:=uO hv;rw[hi]at q;cases q;rw[A]at C F;have n:¬i.bytes=0:=by omega
  have p:¬(281474976710656<Builtin.nextslicecap (sl+d) f*i.bytes):=by omega
  have c:=hx w.drew rfl;have m:(Builtin.firstCells (cA P e) sl (.slice b sl f)).run P w.drew=.ok o.toArray w.drew:=Ax N;rw[j]at c m;have G:sl+d≤(Question.appendCap (sl+d) f e).cut (w.tape w.drawn (.appendCap (sl+d) f e)):=sX _ _;refine⟨_,mp w.drew (hnew w.heap (o++xs++eh ((Question.appendCap (sl+d) f e).cut (w.tape w.drawn (.appendCap (sl+d) f e))-(sl+d)) z) e),?_,⟨rfl,rfl,rfl⟩,E _ G⟩
  have H:(Builtin.zeroCells v.cells ((Question.appendCap (sl+d) f e).cut (w.tape w.drawn (.appendCap (sl+d) f e))-(sl+d)))=(eh ((Question.appendCap (sl+d) f e).cut (w.tape w.drawn (.appendCap (sl+d) f e))-(sl+d)) z).toArray:=by
   apply dR;rw[lX,D]
  rcases k with⟨y,hd⟩|hd<;>(simp[Builtin.append_,aM (eM B),aM hd,sizeOf,dA hi,g,hc,n,p,Question.forced,c,m,gb hv,mA,H,aF];rfl)
theorem IB{t:TypeId}{K:Prop}(h:WR P t K):∃i,P.info? t=some i:=by
 unfold WR at h;cases hi:P.info? t with
 |none=>rw[hi]at h;exact h.elim
 |some i=>exact⟨i,rfl⟩
theorem Dt{t:TypeId}(h:cA P t≠0):∃i,P.info? t=some i:=by
 cases hi:P.info? t with
 |none=>exact absurd (by simp[cA,hi]) h
 |some i=>exact⟨i,rfl⟩
theorem Gp{size n:Nat}{x:ByteArray}{w:World}:(Builtin.firstCells size n (.string x)).run P w=.ok ((eo x).take n).toArray w:=by
 simp only[Builtin.firstCells,Sem.run_pure];congr 1
 apply dR;simp[eo,mQ,gn,←List.map_take]
theorem Bl{t u ty:TypeId}{s x:Value}{K:WK}{w:World}(c:(∃e',P.underlying u=some (.slice e'))∨P.underlying u=some .string)(h:Ha P t s x K w.heap):
  Wv P (Builtin.append_ #[t,u] ty #[s,x]) K w:=by
 unfold Ha at h;split at h
 ·rename_i e b sl sc a xl xc ht
  have hi:=IB h;obtain⟨⟨xs,d,g⟩,m⟩:=sC h;exact Ji ht c (fun w=>rfl) (fun i f=>Ax (by rw[f];exact d)) hi g
 ·rename_i e b sl sc x ht
  cases hb:cd (cA P e) 1 with
  |false=>rw[hb]at h;exact h.elim
  |true=>
   rw[hb]at h;have j:=bG hb;have k:(eo x).length=x.size:=by simp[eo]
   refine Ji ht c (fun w=>rfl) (fun i _=>?_) (Dt (by omega)) h
   rw[Gp,bm (by omega)]
 ·exact h.elim
theorem EF{n:Int}(b:0≤n)(a:n≤9223372036854775807):IntKind.i64.wrap n=n:=IntWalk.i64_in n ⟨by omega,a⟩
theorem Sm{t e u ty:TypeId}{b:Option Addr}{sl d:Nat}{k0 k:IntKind}{l:Int}{z:List Value}{K:WK}{w:World}(x:yW P t=some e)(y:P.underlying u=some (.int k0))
  (U:uc P e=some z)(R:z.length=cA P e)(Y:0≤l)(L:l*ul P e≤2^48)(h2:l≤9223372036854775807)(h3:((sl+l.toNat:Nat):Int)≤9223372036854775807)
  (h:XD P e b sl d l.toNat (eh l.toNat z) K w.heap):Wv P (Builtin.append_ #[t,u] ty #[.slice b sl d,.int k l]) K w:=by
 obtain⟨v,hv,F⟩:=mo U;obtain⟨i,hi,V⟩:=uO hv;have j:cA P e=i.size:=by simp[cA,hi]
 have B:ul P e=i.bytes:=by simp[ul,hi]
 have A:IntKind.wrap .i64 l=l:=EF Y h2;have c:¬l<0:=by omega
 rw[B]at L;have g:¬(281474976710656:Int)<l*i.bytes:=by omega
 have f:∀M:World,(asInt (.int k l)).run P M=.ok l M:=fun M=>rfl
 have D:(Builtin.zeroCells v.cells l.toNat)=(eh l.toNat z).toArray:=by apply dR;rw[lX,F]
 have q:l.toNat*i.size=0→eh l.toNat z= []:=fun N=>by
  have G:(eh l.toNat z).length=l.toNat*i.size:=by rw[←j,←R];unfold eh;simp
  exact ay.1 (by rw[G,N])
 by_cases hc:sl+l.toNat≤d
 ·obtain⟨S,L,I⟩:=h.1 hc
  refine⟨_,_,?_,fS w (gX w.heap b (sl*cA P e) (eh l.toNat z)),I⟩;cases b with
  |none=>
   by_cases m:l.toNat*i.size=0
   ·simp[Builtin.append_,aM (eM x),aM y,sizeOf,dA hi,f,A,c,g,hc,m];rfl
   ·simp[Builtin.append_,aM (eM x),aM y,sizeOf,dA hi,f,A,c,g,hc,gb hv];rfl
  |some a=>
   have n:=HO (P:=P) L S;rw[j]at n;by_cases m:l.toNat*i.size=0
   ·rw[q m]at n
    simp[Builtin.append_,aM (eM x),aM y,sizeOf,dA hi,f,A,c,g,hc,n,gX,j,m,q m]
   ·simp[Builtin.append_,aM (eM x),aM y,sizeOf,dA hi,f,A,c,g,hc,n,gX,j,m,gb hv,D]
 ·obtain⟨E,Z,X,C,J,O,I⟩:=h.2 (by omega)
  rw[U]at C;cases C;rw[B]at J O;have T:¬i.bytes=0:=by omega
  have p:¬(281474976710656<Builtin.nextslicecap (sl+l.toNat) d*i.bytes):=by omega
  have W:¬(9223372036854775807:Int)<((sl:Int)+(l.toNat:Int)):=by omega
  have o:¬(9223372036854775807:Int)<((sl:Int)+max l 0):=by omega
  have s:(Builtin.firstCells (cA P e) sl (.slice b sl d)).run P w.drew=.ok E.toArray w.drew:=Ax X;rw[j]at s;have Q:sl+l.toNat≤(Question.appendCap (sl+l.toNat) d e).cut (w.tape w.drawn (.appendCap (sl+l.toNat) d e)):=sX _ _;refine⟨_,mp w.drew (hnew w.heap (E++eh l.toNat z++eh ((Question.appendCap (sl+l.toNat) d e).cut (w.tape w.drawn (.appendCap (sl+l.toNat) d e))-(sl+l.toNat)) z) e),?_,⟨rfl,rfl,rfl⟩,I _ Q⟩
  have H:(Builtin.zeroCells v.cells ((Question.appendCap (sl+l.toNat) d e).cut (w.tape w.drawn (.appendCap (sl+l.toNat) d e))-(sl+l.toNat)))=(eh ((Question.appendCap (sl+l.toNat) d e).cut (w.tape w.drawn (.appendCap (sl+l.toNat) d e))-(sl+l.toNat)) z).toArray:=by
   apply dR;rw[lX,F]
  by_cases m:l.toNat*i.size=0
  ·rw[q m]at I⊢
   simp[Builtin.append_,aM (eM x),aM y,sizeOf,dA hi,f,A,c,g,hc,o,p,Question.forced,s,gb hv,mA,H,aF,m];rfl
  ·simp[Builtin.append_,aM (eM x),aM y,sizeOf,dA hi,f,A,c,g,hc,o,p,Question.forced,s,gb hv,mA,H,aF,m,D];rfl
theorem HB{t u ty:TypeId}{k0:IntKind}{s x:Value}{K:WK}{w:World}(f:P.underlying u=some (.int k0))(h:HD P t s x K w.heap):
  Wv P (Builtin.append_ #[t,u] ty #[s,x]) K w:=by
 unfold HD at h;split at h
 ·rename_i e b sl sc k l ht
  split at h
  ·rename_i z hz
   cases hb:cd z.length (cA P e)with
   |false=>rw[hb]at h;exact h.elim
   |true=>
    rw[hb]at h;obtain⟨⟨g,c,h2,a⟩,d⟩:=h;exact Sm ht f hz (bG hb) g c h2 a d
  ·exact h.elim
 ·exact h.elim
theorem kZ:∀{a b:List Value},cG a=true→cG b=true→cG (a++b)=true
 | [],_,_,h=>h
 |v::a,b,h,k=>by
  simp only[cG,cJ,bK]at h⊢;exact⟨h.1,kZ h.2 k⟩
theorem Dg{z:List Value}(h:cG z=true):∀n,cG (eh n z)=true
 |0=>rfl
 |n+1=>by
  have:eh (n+1) z=z++eh n z:=by simp[eh,List.replicate_succ]
  rw[this];exact kZ h (Dg h n)
theorem MG{t ty:TypeId}{x:Value}{K:WK}{w:World}(h:QH P t x K w.heap):Wv P (Builtin.clear_ #[t] ty #[x]) K w:=by
 unfold QH at h;split at h
 ·rename_i e a n c ht
  split at h
  ·rename_i z hz
   obtain⟨v,hv,d⟩:=mo hz;cases ho:cG z with
   |false=>rw[ho]at h;exact h.elim
   |true=>
    rw[ho]at h;obtain⟨g,i⟩:=h;refine⟨_,_,?_,fS w (gX w.heap a 0 (eh n z)),i⟩;cases a with
    |none=>simp[Builtin.clear_,aM (eM ht)];rfl
    |some a=>
     cases n with
     |zero=>simp[Builtin.clear_,aM (eM ht)];rfl
     |succ n=>
      have b:=HO (P:=P) (Dg ho (n+1)) g;rw[←xh,Jk]at b;have f:(Builtin.zeroCells v.cells (n+1)).toList=eh (n+1) z:=by rw[lX,d]
      simp[Builtin.clear_,aM (eM ht),gb hv,f,b,gX]
  ·exact h.elim
 ·exact h.elim
theorem Dh:∀(xs:List Value) (n:Nat),cG xs=true→cG (xs.take n)=true
 | [],n,_=>by simp[cG]
 |x::xs,0,_=>by simp[cG]
 |x::xs,n+1,h=>by
  simp only[cG,bK,List.take_succ_cons]at h⊢;exact⟨h.1,Dh xs n h.2⟩
theorem Ko(x:ByteArray):cG (eo x)=true:=by
 have:∀l:List UInt8,cG (l.map fun b=>.int .u8 (b.toNat:Int))=true:=by
  intro l;induction l with
  |nil=>rfl
  |cons b l ih=>simp[cG,ih]
 exact this _
theorem Ou{t u ty:TypeId}{d s:Value}{K:WK}{w:World}(h:V4 P t d s K w.heap):Wv P (Builtin.copy_ #[t,u] ty #[d,s]) K w:=by
 unfold V4 at h;split at h
 ·rename_i e b dl dc a sl sc ht
  obtain⟨⟨xs,o,k,p,n⟩,j⟩:=sC h;refine⟨_,_,?_,fS w (gX w.heap b 0 xs),n⟩;have g:=Ax (P:=P) (len:=sl) (cap:=sc) o;cases b with
  |none=>simp[Builtin.copy_,aM (eM ht),Builtin.lenOf,j,g,goInt];rfl
  |some c=>
   have f:=HO (P:=P) (m:=0) p k;simp only[Addr.add,if_pos]at f;simp[Builtin.copy_,aM (eM ht),Builtin.lenOf,j,g,goInt,f,gX]
 ·rename_i e b dl dc x ht
  cases hb:cd (cA P e) 1 with
  |false=>rw[hb]at h;exact h.elim
  |true=>
   rw[hb]at h;have p:=bG hb;obtain⟨i,hi⟩:=Dt (P:=P) (t:=e) (by omega);have j:(sizeOf e).run P w=.ok (cA P e) w:=by simp[sizeOf,dA hi,cA,hi]
   obtain⟨k,n⟩:=h;have v:(eo x).length=x.size:=by simp[eo]
   have q:(eo x).take (fa x.size dl)=(eo x).take dl:=by
    by_cases hx:x.size≤dl
    ·rw[show fa x.size dl=x.size from Nat.min_eq_left hx,bm (by omega),bm (by omega)]
    ·rw[show fa x.size dl=dl from Nat.min_eq_right (by omega)]
   have g:(Builtin.firstCells (cA P e) (fa x.size dl) (.string x)).run P w=.ok ((eo x).take dl).toArray w:=by
    rw[Gp,q]
   refine⟨_,_,?_,fS w (gX w.heap b 0 ((eo x).take dl)),n⟩;cases b with
   |none=>simp[Builtin.copy_,aM (eM ht),Builtin.lenOf,j,g,goInt];rfl
   |some c=>
    have f:=HO (P:=P) (m:=0) (Dh _ dl (Ko x)) k;simp only[Addr.add,if_pos]at f;simp[Builtin.copy_,aM (eM ht),Builtin.lenOf,j,g,goInt,f,gX]
 ·exact h.elim
theorem Tu(k v:Value)(a:Nat):∀(es:List MapEntry),(match es.findIdx? (fun e=>jy k e.key)with
  |some i=>(es.modify i (fun e=>{e with key:=k,val:=v}),a)
  |none=>(es++ [{key:=k,val:=v,born:=a}],a+1))=Rc k v a es
 | []=>rfl
 |e::es=>by
  have b:=Tu k v a es;simp only[Rc,List.findIdx?_cons];cases hk:jy k e.key with
  |true=>simp[List.modify]
  |false=>
   simp only[f9,if_false];rw[←b];cases hf:es.findIdx? (fun e=>jy k e.key)with
   |none=>simp
   |some i=>simp[List.modify]
theorem zJ{d:TypeDesc}{c:CK}(hd:rB d c)(x:c.den):∀(es:List MapEntry) (i:Nat),Iy c es→
  Instr.findNow d (c.enc x) es i=some (match es.findIdx? (fun e=>jy (c.enc x) e.key)with
   |some j=>(es[j]?).map fun e=>(i+j,e.val)
   |none=>none)
 | [],i,_=>rfl
 |e::es,i,h=>by
  obtain⟨y,f⟩:=h e (by simp);have b:=F0 hd x y;rw[←f]at b;have g:=zJ hd x es (i+1) fun k a=>h k (by simp[a])
  simp only[Instr.findNow,List.findIdx?_cons,b];cases hb:jy (c.enc x) e.key with
  |true=>simp
  |false=>
   simp only[f9,if_false];rw[g];cases hf:es.findIdx? (fun e=>jy (c.enc x) e.key)with
   |none=>simp
   |some j=>simp[lL,Nat.add_comm 1 j]
theorem GS{a b:ByteArray}(h:(a==b)=true):a=b:=by
 cases a with|mk a=>cases b with|mk b=>
 have h:(a==b)=true:=h;rw[eq_of_beq h]
theorem Ja(a:ByteArray):(a==a)=true:=by
 cases a with|mk a=>
 exact beq_self_eq_true a
theorem MV{d:TypeDesc}{c:CK}(hd:rB d c)(x y:c.den)(h:jy (c.enc x) (c.enc y)=true):Instr.sameBits 10000 (c.enc y) (c.enc x)=true:=by
 rcases hd with⟨i,rfl,rfl⟩|⟨rfl,rfl⟩|⟨rfl,rfl⟩
 ·have h:x=y:=eq_of_beq (α:=Int) h
  subst h;have:∀n:Int,(i==i&&n==n)=true:=fun n=>by simp
  exact this x
 ·have h:x=y:=GS h
  subst h;exact Ja x
 ·have h:x=y:=eq_of_beq (α:=Bool) h
  subst h;exact beq_self_eq_true (α:=Bool) x
theorem yg{w:World}{r:Nat}{es:Array MapEntry}{a:Nat}{o:Obj}(h:w.heap[r]? =some (.map es a)):(setObj r o).run P w=.ok () (mp w (w.heap.setIfInBounds r o)):=by
 simp only[setObj,Sem.run,h];rfl
theorem Rs{t k e:TypeId}{d:TypeDesc}{c:CK}(z:P.underlying t=some (.map k e))(p:P.underlying k=some d)(hd:rB d c){r:Nat}{x:c.den}{v:Value}{w:World}(hm:Ub c w.heap r):
  (Instr.mapUpdate t (.map (some r)) (c.enc x) v).run P w=.ok () (mp w (YL w.heap r (c.enc x) v)):=by
 obtain⟨es,a,g,b⟩:=hm;obtain⟨q,A,h2,B⟩:=yo (P:=P) hd p x b w;rw[zJ hd x es.toList 0 b]at h2;have f:=Tu (c.enc x) v a es.toList;have m:YL w.heap r (c.enc x) v=w.heap.setIfInBounds r (.map (Rc (c.enc x) v a es.toList).1.toArray (Rc (c.enc x) v a es.toList).2):=by
  simp only[YL,g]
 rw[m,←f];simp only[Instr.mapUpdate,Sem.run_bind,aM z,Result.andThen_ok,oa g,pQ hd p,A];cases hf:es.toList.findIdx? (fun e=>jy (c.enc x) e.key)with
 |none=>
  rw[hf]at h2;simp only[bR.injEq]at h2;subst h2;simp only[yg g];congr 4
  apply dR;simp
 |some i=>
  rw[hf]at h2;simp only[bR.injEq]at h2;obtain⟨hi,s,_⟩:=List.findIdx?_eq_some_iff_getElem.1 hf;have o:es.toList[i]? =some es.toList[i]:=af hi;rw[o]at h2;simp only[iG,aR]at h2;subst h2;have n:es[i]? =some es.toList[i]:=by rw[←bX];exact o
  obtain⟨y,u⟩:=b es.toList[i] (List.getElem_mem hi);have j:Instr.sameBits 10000 (es.toList[i]).key (c.enc x)=true:=by
   rw[u]at s⊢;exact MV hd x y s
  simp only[n,iG,Option.getD_some,Instr.keyThatStays,j,if_true,Sem.run_bind,Sem.run_pure,Result.andThen_ok,yg g];congr 4
  apply dR;simp
theorem Bk{t:TypeId}{m k v:Value}{K:WK}{w:World}(h:G9 P t m k v K w.heap):Wu P (Instr.mapUpdate t m k v) K w:=by
 unfold G9 at h;split at h
 ·rename_i c e m hc
  obtain⟨g,d,f,a,hd⟩:=zD hc;obtain⟨i,rfl,r,rfl,hm,b⟩:=CK.dec_sound h;exact⟨_,Rs f a hd hm,fS _ _,b⟩
 ·exact h.elim
theorem PI(k:Value):∀(es:List MapEntry),(match es.findIdx? (fun e=>jy k e.key)with
  |some i=>es.eraseIdx i
  |none=>es)=PJ k es
 | []=>rfl
 |e::es=>by
  have a:=PI k es;simp only[PJ,List.findIdx?_cons];cases hk:jy k e.key with
  |true=>simp
  |false=>
   simp only[f9,if_false];rw[←a];cases hf:es.findIdx? (fun e=>jy k e.key)<;>simp
theorem Pj{t k e ty:TypeId}{ts:Array TypeId}{d:TypeDesc}{c:CK}(s:ts[0]? =some t) (u:P.underlying t=some (.map k e)) (o:P.underlying k=some d) (hd:rB d c) {r:Nat} {x:c.den} {w:World} (hm:Ub c w.heap r):
  (Builtin.delete_ ts ty #[.map (some r),c.enc x]).run P w=.ok (.tuple #[]) (mp w (TF w.heap r (c.enc x))):=by
 obtain⟨es,f,j,g⟩:=hm;obtain⟨q,v,h2,y⟩:=yo (P:=P) hd o x g w;rw[zJ hd x es.toList 0 g]at h2;have b:=PI (c.enc x) es.toList;have n:TF w.heap r (c.enc x)=w.heap.setIfInBounds r (.map (PJ (c.enc x) es.toList).toArray f):=by
  simp only[TF,j]
 rw[n,←b];simp only[Builtin.delete_,s,List.getElem?_toArray,List.getElem?_cons_zero,List.getElem?_cons_succ,Sem.run_bind,aM u,Result.andThen_ok,oa j,pQ hd o,v];cases hf:es.toList.findIdx? (fun e=>jy (c.enc x) e.key)with
 |none=>
  rw[hf]at h2;simp only[bR.injEq]at h2;subst h2;simp[yg j]
 |some i=>
  rw[hf]at h2;simp only[bR.injEq]at h2;obtain⟨hi,z,_⟩:=List.findIdx?_eq_some_iff_getElem.1 hf;have p:es.toList[i]? =some es.toList[i]:=af hi;rw[p]at h2;simp only[iG,aR]at h2;subst h2;have m:i<es.size:=by simpa using hi
  have a:es.eraseIdxIfInBounds i=(es.toList.eraseIdx i).toArray:=by
   apply dR;simp[Array.eraseIdxIfInBounds,m]
  simp[yg j,a]
theorem Hz{t ty:TypeId}{ts:Array TypeId}{m k:Value}{K:WK}{w:World}(g:ts[0]? =some t) (h:HA P t m k K w.heap):Wv P (Builtin.delete_ ts ty #[m,k]) K w:=by
 unfold HA at h;split at h
 ·rename_i c e m hc
  obtain⟨i,d,f,b,hd⟩:=zD hc;obtain⟨j,rfl,h⟩:=CK.dec_sound h;rcases h with⟨rfl,a⟩|⟨r,rfl,hm,a⟩
  ·refine⟨_,w,?_,Tame.refl w,a⟩
   simp[Builtin.delete_,g,aM f,pQ hd b]
  ·exact⟨_,_,Pj g f b hd hm,fS _ _,a⟩
 ·exact h.elim
theorem UB{t k e:TypeId}(b:P.underlying t=some (.map k e)){m:Option Nat}{a:Nat}{w:World}(hm:m=none∧a=0∨∃r es,m=some r∧w.heap[r]? =some (.map es a)):
  (Instr.range t (.map m)).run P w=.ok (.pointer (some (aF w.heap))) (mp w (w.heap.push (.mapIter m a #[] a))):=by
 rcases hm with⟨rfl,rfl⟩|⟨r,es,rfl,c⟩
 ·simp only[Instr.range,Sem.run_bind,aM b,Result.andThen_ok,Sem.run_pure,H1,aF]
 ·simp only[Instr.range,Sem.run_bind,aM b,Result.andThen_ok,Sem.run_pure,oa c,H1,aF]
theorem zt{w:World}{i:Nat}{m:Option Nat}{a:Nat}{c:Array Nat}{b:Nat}(h:w.heap[i]? =some (.mapIter m a c b)):(getObj i).run P w=.ok (.mapIter m a c b) w:=by
 simp only[getObj,Sem.run,h]
theorem OL{w:World}{i:Nat}{m:Option Nat}{a:Nat}{c:Array Nat}{b:Nat}{o:Obj}(h:w.heap[i]? =some (.mapIter m a c b)):(setObj i o).run P w=.ok () (mp w (w.heap.setIfInBounds i o)):=by
 simp only[setObj,Sem.run,h];rfl
theorem IZ(n:Nat)(a:0<n)(w:World):∃k w',k<n∧(choose (.mapNext n)).run P w=.ok k w'∧Tame w w'∧w'.heap=w.heap:=by
 unfold choose;simp only[Sem.run];by_cases h:(Question.mapNext n).forced=true
 ·exact⟨0,w,a,by rw[if_pos h],Tame.refl w,rfl⟩
 ·refine⟨(Question.mapNext n).cut (w.tape w.drawn (.mapNext n)),{w with drawn:=w.drawn+1},Nat.mod_lt _ a,by rw[if_neg h],⟨rfl,rfl,rfl⟩,rfl⟩
theorem Ot{Q:Value}{t:TypeId}{K:WK}{w:World}(h:V3 Q K w.heap):Wv P (Instr.next Q false t) K w:=by
 unfold V3 at h;split at h
 ·rename_i a
  obtain⟨R,m,j,g,u,hi,h⟩:=h;obtain⟨b,off,N⟩:=a;simp only at R hi h;subst R;rcases h with⟨rfl,S⟩|⟨r,es,A,rfl,O,F,C,H⟩
  ·exact⟨_,w,by simp only[Instr.next,Sem.run_bind,zt hi,Result.andThen_ok,Sem.run_pure],Tame.refl w,S⟩
  ·have v:(!g.isEmpty&& !es.isEmpty&&es.all (fun e=>decide (e.born≥u)))=false:=by
    rcases F with h|h|h<;>simp[h]
   obtain⟨left,n⟩:∃left,left=es.filter fun e=> !g.contains e.born:=⟨_,rfl⟩
   obtain⟨i,q⟩:∃i,i=left.filter (·.born<j):=⟨_,rfl⟩
   obtain⟨z,hnew⟩:∃z,z=left.filter (·.born≥j):=⟨_,rfl⟩
   obtain⟨d,f⟩:∃d:Array (Option MapEntry),d=(if i.isEmpty then #[none]else #[])++(i++z).map some:=⟨_,rfl⟩
   have D:0<d.size:=by
    rw[f];by_cases B:i.isEmpty=true
    ·simp[B];omega
    ·have:i.size≠0:=by simpa using B
     simp[B];omega
   obtain⟨k,G,U,y,M,L⟩:=IZ (P:=P) d.size D w;obtain⟨c,hc⟩:∃c,d[k]? =some c:=⟨d[k],Array.getElem?_eq_getElem U⟩;have I:G.heap[b]? =some (.mapIter (some r) j g u):=by rw[L];exact hi
   have o:(!g.isEmpty&& !es.isEmpty&&es.all fun x=>decide (x.born≥u))=false:=v
   cases c with
   |none=>
    refine⟨.tuple #[.bool false],G,?_,M,?_⟩
    ·simp only[Instr.next,Sem.run_bind,zt hi,Result.andThen_ok,Sem.run_pure,oa O,o,f9,if_false,←n,←q,←hnew,←f,y,hc]
    ·rw[L]
     have s:i.isEmpty=true:=by
      have hm:none∈d:=si hc;rw[f]at hm;by_cases B:i.isEmpty=true
      ·exact B
      ·simp[B]at hm
     refine C fun e T J=>?_
     cases hs:g.contains e.born with
     |true=>rfl
     |false=>
      have p:e∈i:=by
       rw[q,n];simp only[tc];exact⟨⟨by simpa using T,by rw[hs];rfl⟩,by simpa using J⟩
      rw[Array.isEmpty_iff]at s;rw[s]at p;simp at p
   |some e=>
    have p:e∈es∧g.contains e.born=false:=by
     have hm:some e∈d:=si hc;have E:e∈left:=by
      rw[f]at hm;rw[Array.mem_append]at hm;rcases hm with hm|hm
      ·split at hm<;>simp at hm
      ·simp only[Array.mem_map,bR.injEq,exists_eq_right,Array.mem_append]at hm
       rcases hm with hm|hm
       ·rw[q]at hm;exact(tc.1 hm).1
       ·rw[hnew]at hm;exact(tc.1 hm).1
     rw[n]at E;have:=tc.1 E;exact⟨this.1,by simpa using this.2⟩
    refine⟨.tuple #[.bool true,e.key,e.val],mp G (G.heap.setIfInBounds b (.mapIter (some r) j (g.push e.born) A)),?_,M.trans (fS _ _),?_⟩
    ·simp only[Instr.next,Sem.run_bind,zt hi,Result.andThen_ok,Sem.run_pure,oa O,o,f9,if_false,←n,←q,←hnew,←f,y,hc,OL I]
    ·rw[L]
     exact H e (by simpa using p.1) p.2
 ·exact h.elim
theorem Kq{t e:TypeId}{z:List Value}{k k':IntKind}{l c:Int}{w:World}(p:yW P t=some e)(B:uc P e=some z)(g:z.length=cA P e)(D:0≤l)(E:l≤c)(h2:c≤9223372036854775807)(C:ul P e*c≤2^48):
  (Instr.makeSlice t (.int k l) (.int k' c)).run P w=.ok (.slice (some (aF w.heap)) l.toNat c.toNat) (mp w (hnew w.heap (eh c.toNat z) e)):=by
 obtain⟨v,hv,b⟩:=mo B;obtain⟨i,hi,A⟩:=uO hv;have f:cA P e=i.size:=by simp[cA,hi]
 have m:ul P e=i.bytes:=by simp[ul,hi]
 have n:v.cells.size=i.size:=by rw[←f,←g,←b];simp
 have s:=EF D (by omega);have hc:=EF (show 0≤c by omega) h2
 rw[m]at C;have u:¬(c<0):=by omega
 have y:¬(281474976710656<(i.bytes:Int)*c):=by omega
 have q:¬(l<0):=by omega
 have x:¬(c<l):=by omega
 by_cases a:c.toNat*i.size=0
 ·have o:(eh c.toNat z).length=0:=by simp[eh,g,f,a]
  rw[ay.1 o];simp[Instr.makeSlice,aM (eM p),asInt,asIntOf,dA hi,s,hc,u,y,q,x,sizeOf,a,mA]
 ·have d:((Array.range (c.toNat*i.size)).map (fun j=>v.cells[j%v.cells.size]!))=(eh c.toNat z).toArray:=by
   rw[←n,S4,b]
  have key:(newRow e ((Array.range (c.toNat*i.size)).map (fun j=>v.cells[j%v.cells.size]!))).run P w=.ok (aF w.heap) (mp w (hnew w.heap (eh c.toNat z) e)):=by
   rw[d,mA]
  simp[Instr.makeSlice,aM (eM p),asInt,asIntOf,dA hi,s,hc,u,y,q,x,sizeOf,a,gb hv];rw[key];rfl
theorem Agree.args{N:Nat}{r:cX}{a:Act}(h:Agree N r a){os:Array Operand}{vs:List Value}(hv:ue r os.toList=some vs):os.map a.eval=vs.toArray:=by
 rw[←qX h hv];apply dR;simp
theorem HC.out{f:FuncId}{args:List Value}{ks:List Kind}{K:WK}{w:World}(h:HC P f args ks (fun x h'=>K (H8 ks (pP ks x)) h') w.heap):PZ P (callFunc f args.toArray) K w:=by
 rcases h.run w rfl with⟨b,h2⟩|⟨v,d,b,a,x,rfl,c⟩
 ·refine .inr (.inr (.inl ⟨f,args.toArray,b,h2.mono ?_⟩))
  rintro e d ⟨a,x,rfl,c⟩;exact⟨a,_,rfl,c⟩
 ·exact .inl ⟨_,d,b,a,c⟩
theorem Vp{a b e:TypeId}{s:ByteArray}{w:World}(g:P.underlying a=some .string)(hd:P.underlying b=some (.slice e))(j:P.underlying e=some (.int .u8)):
  ∃c,s.size≤c∧(convert a b (.string s)).run P w=.ok (.slice (some (aF w.heap)) s.size c) (mp w.drew (w.heap.push (.cells (eo s++fg (c-s.size) (Value.int .u8 0)).toArray e (c,c+1)))):=by
 have d:s.size≤grownCap w s.size 0 e:=sX _ _;refine⟨_,d,?_⟩;rw[Go.Lib.run_convert_string_bytes w a b e s g hd j];have hc:(Go.Lib.bytesCells w e s).size=grownCap w s.size 0 e:=by
  unfold Go.Lib.bytesCells;rw[Array.size_append,Array.size_map,Array.size_replicate,show s.data.size=s.size from rfl]
  omega
 have f:(eo s++fg (grownCap w s.size 0 e-s.size) (Value.int .u8 0)).toArray=Go.Lib.bytesCells w e s:=by
  unfold Go.Lib.bytesCells eo;apply dR;simp
 rw[f];unfold Go.Lib.bytesWorld World.freeze;rw[if_neg (by omega),hc];unfold World.alloc World.drew mp;congr 1
 congr 1
 apply Array.ext (by simp);intro i k h2;rw[Array.getElem_modify];simp only[Array.getElem_push];split
 ·rename_i e
  subst e;simp
 ·rename_i e
  have hi:i<w.heap.size:=by simp at h2;omega
  rw[dif_pos hi,dif_pos hi]
theorem EH{o:Oper}{r:cX}{K:WK}{w:World}{N:Nat}{a:Act}(D:Agree N r a)(j:Kf P o r K w.heap):PZ P (execOp a.eval o) K w:=by
 have A:∀{x:Operand} {v:Value},eH r x=some v→a.eval x=v:=fun h=>oc D h
 obtain⟨V,W,type,qk,G,F⟩:=o;cases W with
 |alloc t=>
  simp only[Kf]at j;split at j
  ·rename_i z hz
   obtain⟨v,hv,R⟩:=mo hz;have C:(Instr.alloc t true (.tuple #[])).run P w=.ok (.pointer (some (aF w.heap))) (mp w (hnew w.heap z t)):=by
    simp[Instr.alloc,gb hv,newVar,mA,R]
   exact Wv.out ⟨_,_,C,fS _ _,j⟩
  ·exact j.elim
 |box t x=>
  simp only[Kf]at j;split at j
  ·rename_i v hv
   have C:(Instr.box t v).run P w=.ok (.pointer (some (aF w.heap))) (mp w (hnew w.heap v.cells.toList t)):=by
    simp[Instr.box,newVar,mA]
   simp only[execOp,A hv];exact Wv.out ⟨_,_,C,fS _ _,j⟩
  ·exact j.elim
 |build t ps=>
  simp only[Kf]at j;split at j
  ·rename_i vs p
   split at j
   ·rename_i cs hcs
    have M:(ps.map fun x=>(x.1,a.eval x.2))=vs.toArray:=by
     rw[←qZ D p];apply dR;simp
    have C:=DN (ps:=vs.toArray) (by simpa using hcs) w;simp only[execOp];rw[show(ps.map fun(i,x)=>(i,a.eval x))=vs.toArray from M]
    exact Wv.out ⟨_,w,C,Tame.refl w,j⟩
   ·exact j.elim
  ·exact j.elim
 |buildSlice t n ps=>
  simp only[Kf]at j;split at j
  ·rename_i e vs E p
   split at j
   ·rename_i z hz
    cases hb:(AS (n*cA P e) 16777216&&cd z.length (cA P e))with
    |false=>rw[hb]at j;exact j.elim
    |true=>
     rw[hb]at j;simp only[bK]at hb;simp only[cond_true]at j;split at j
     ·rename_i cs hcs
      have M:(ps.map fun x=>(x.1,a.eval x.2))=vs.toArray:=by
       rw[←qZ D p];apply dR;simp
      have C:=Fj (ps:=vs.toArray) E hz (kN hb.1) (bG hb.2) (by simpa using hcs) w;simp only[execOp];rw[show(ps.map fun(i,x)=>(i,a.eval x))=vs.toArray from M]
      exact Wv.out ⟨_,_,C,fS _ _,j⟩
     ·exact j.elim
   ·exact j.elim
  ·exact j.elim
 |store t x y=>
  simp only[Kf]at j;split at j
  ·rename_i b v hb hv
   simp only[execOp,A hb,A hv];exact Wu.out (MF j)
  ·exact j.elim
 |mapUpdate t m k x=>
  simp only[Kf]at j;split at j
  ·rename_i mv kv xv hm B hx
   simp only[execOp,A hm,A B,A hx];exact Wu.out (Bk j)
  ·exact j.elim
 |insert t m k x=>
  simp only[Kf]at j;split at j
  ·rename_i mv kv xv hm B hx
   simp only[execOp,A hm,A B,A hx];exact Wu.out (Bk j)
  ·exact j.elim
 |makeMap t n=>
  simp only[Kf]at j;cases n with
  |none=>exact Wv.out ⟨_,mp w (w.heap.push (.map #[] 0)),by simp[Instr.makeMap];rfl,fS _ _,j⟩
  |some n=>
   simp only at j;split at j
   ·rename_i k i hn E
    exact Wv.out ⟨_,mp w (w.heap.push (.map #[] 0)),by simp[Instr.makeMap,A hn,aM E,asInt,asIntOf];rfl,fS _ _,j⟩
   ·exact j.elim
 |makeSlice t l c=>
  simp only[Kf]at j;split at j
  ·rename_i e k l' k' c' E O hc
   split at j
   ·rename_i z hz
    cases hb:cd z.length (cA P e)with
    |false=>rw[hb]at j;exact j.elim
    |true=>
     rw[hb]at j;obtain⟨⟨Z,S,h2,Y⟩,j⟩:=j;simp only[execOp,A O,A hc];exact Wv.out ⟨_,_,Kq E hz (bG hb) Z S h2 Y,fS _ _,j⟩
   ·exact j.elim
  ·exact j.elim
 |convert s d x=>
  simp only[Kf]at j;split at j
  ·rename_i e v Q hd hx
   cases hu:RD P e with
   |false=>rw[hu]at j;exact j.elim
   |true=>
    rw[hu]at j;obtain⟨c,hc,J⟩:=Vp (w:=w) (s:=v) Q hd (IA hu);simp only[execOp,A hx];exact Wv.out ⟨_,_,J,⟨rfl,rfl,rfl⟩,j c hc⟩
  ·exact j.elim
 |range t x=>
  simp only[Kf]at j;split at j
  ·rename_i k e m hu hx
   obtain⟨T,hm,j⟩:=j;simp only[execOp,A hx];exact Wv.out ⟨_,_,UB hu hm,fS _ _,j⟩
  ·exact j.elim
 |next it isS=>
  cases isS with
  |true=>simp only[Kf]at j
  |false=>
   simp only[Kf]at j;split at j
   ·rename_i v hv
    simp only[execOp,A hv];exact Wv.out (Ot j)
   ·exact j.elim
 |call c=>
  simp only[Kf]at j;have L:∀{b:Builtin} {vs:List Value},c.callee=.builtin b→ue r c.args.toList=some vs→∃cs:Array Bool,∀w,(execOp a.eval ⟨V,.call c,type,qk,G,F⟩).run P w=
    (builtin b c.argTypes type cs vs.toArray).run P w:=by
   intro b vs hc p;refine⟨c.args.map fun| .const _=>true|_=>false,fun w=>?_⟩
   simp[execOp,resolve,hc,D.args p,invoke];rfl
  have I:∀{s s':Sem Next},(∀w,s.run P w=s'.run P w)→PZ P s' K w→PZ P s K w:=by
   intro s s' C h;unfold PZ at h⊢;simp only[C];exact h
  split at j
  ·rename_i s x hc p
   split at j
   ·rename_i t u hat
    obtain⟨cs,H⟩:=L hc p;refine I H ?_;have q:c.argTypes= #[t,u]:=by apply dR;rw[hat]
    simp only[builtin,q];split at j
    ·rename_i e' hu;exact Wv.out (Bl (.inl ⟨e',hu⟩) j)
    ·rename_i hu;exact Wv.out (Bl (.inr hu) j)
    ·rename_i k0 hu;exact Wv.out (HB hu j)
    ·exact j.elim
   ·exact j.elim
  ·rename_i x hc p
   split at j
   ·rename_i t hat
    obtain⟨cs,H⟩:=L hc p;refine I H ?_;have q:c.argTypes= #[t]:=by apply dR;rw[hat]
    simp only[builtin,q];exact Wv.out (MG j)
   ·exact j.elim
  ·rename_i s x hc p
   split at j
   ·rename_i t u hat
    obtain⟨cs,H⟩:=L hc p;refine I H ?_;have q:c.argTypes= #[t,u]:=by apply dR;rw[hat]
    simp only[builtin,q];exact Wv.out (Ou j)
   ·exact j.elim
  ·rename_i m k hc p
   split at j
   ·rename_i t u hat
    obtain⟨cs,H⟩:=L hc p;refine I H ?_;simp only[builtin];exact Wv.out (Hz (by rw[←bX,hat];rfl) j)
   ·exact j.elim
  ·rename_i f args hc p
   unfold Zi at j;split at j
   ·exact j.elim
   ·rename_i ks hks
    split at j
    ·rename_i f
     refine I (s':=callFunc f args.toArray) (fun w=>?_) j.out
     simp[execOp,resolve,hc,D.args p,Act.eval,Deferred.ofValue,invoke]
    ·rename_i f hf
     split at j
     ·rename_i fv hfv
      rcases j.run with⟨g,first,cap,rfl,U⟩|⟨l,rfl,U⟩
      rotate_left
      ·obtain⟨fn,tmps,assign,body,S,h2⟩:=U.run w rfl
       refine .inr (.inr (.inr ⟨l,fn,tmps,assign,body,?_,fun c cs=>?_⟩))
       ·rw[←S]
        simp[execOp,resolve,hc,D.args p,A hfv,Deferred.ofValue,invoke]
       ·obtain⟨b,X,E,B,Q⟩:=h2 c cs
        refine⟨b,X,E,?_,Q⟩;obtain⟨t,e,B⟩:=vq B;have O:ks.length=1:=by rw[←wp ks t,←e];rfl
        match ks,O,t,e,B with
        | [k],_,t,e,B=>rw[←e]at B;exact B
      refine I (s':=callFunc g (first.toList++args++cap.toList).toArray) (fun w=>?_) U.out
      have e:first++args.toArray++cap=(first.toList++args++cap.toList).toArray:=by apply dR;simp
      rw[←e];simp[execOp,resolve,hc,D.args p,A hfv,Deferred.ofValue,invoke]
     ·exact j.elim
  ·exact j.elim
 |_=>simp only[Kf]at j
end Go.Lift
