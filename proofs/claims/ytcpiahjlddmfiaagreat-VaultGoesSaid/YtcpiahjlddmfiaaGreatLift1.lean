/- A part of the proof that the named laws of this program answer true, whatever the input. -/
import Derived.Test.YtcpiahjlddmfiaaGreatLift0
import Derived.Laws.Append
import Derived.Laws.Cover3
import Derived.Laws.StructEq
import Derived.Laws.BytesString
import Derived.Lib.ConvBytes
open Array renaming ext'→bX,getElem?_toList→aJ,mem_filter→lp
open Bool renaming and_eq_true→aO,false_eq_true→cB
open ByteArray renaming data_extract→kF
open List renaming extract_eq_take_drop→ec,map_cons→bN,map_map→jc,take_of_length_le→be,length_cons→aI,cons_append→cR,replicate→dU,length_eq_zero_iff→bV,getElem?_eq_getElem→au
open Nat renaming beq→aV,eq_of_beq_eq_true→az,le_of_ble_eq_true→kN,add_zero→eG,zero_add→aw,le_add_right→lj,min→cE
open Option renaming some→bv,isSome_iff_exists→eF,map_some→gZ
open Prod renaming mk→mE
open UInt8 renaming ofNat→d4
namespace Go.Lift
open Go
def GL(S:Option (ac→Prop))(h:ac):Prop:=match S with|none=>True|some f=>f h
def Yv(P:Program)(s:Sem Value)(K:RK)(h:ac):Prop:=∃v S,K v S∧GL S h∧∀w:World,GL S w.heap→s.run P w=.ok v w
theorem Yv.of_pure{P:Program}{s:Sem Value}{K:RK}{h:ac}{v:Value}(c:K v none)(a:∀w:World,s.run P w=.ok v w):Yv P s K h:=
 ⟨v,none,c,trivial,fun w _=>a w⟩
variable {P:Program}
theorem qy{t:TypeId}{f:Nat}{u:TypeId}{off:Nat}(h:qz P t f=some (u,off)):
  ∃fs g,P.underlying t=some (.struct fs)∧fs[f]? =some g∧g.type=u∧g.offset=off:=by
 unfold qz at h;split at h
 ·rename_i fs hu
  split at h
  ·rename_i g hg
   simp only[bv.injEq,mE.injEq]at h;exact⟨fs,g,hu,by simpa using hg,h.1,h.2⟩
  ·cases h
 ·cases h
theorem rY{t:TypeId}(h:aV (bi P t) 0=false)(w:World):(sizeOf t).run P w=.ok (bi P t) w:=by
 unfold bi at h⊢;cases hi:P.info? t with
 |none=>rw[hi]at h;cases h
 |some i=>simp[sizeOf,bR hi]
theorem wh{t:TypeId}{f:Nat}{u:TypeId}{off:Nat}{a:Addr}{K:RK}{h:ac}(k:qz P t f=some (u,off))
  (c:bif aV (bi P u) 0 then False else K (.pointer (some (adr a off))) none):Yv P (Instr.fieldAt t (.pointer (some a)) f) K h:=by
 obtain⟨m,g,j,i,rfl,rfl⟩:=qy k;cases hz:aV (bi P g.type) 0 with
 |true=>rw[hz]at c;exact c.elim
 |false=>
  rw[hz]at c;refine .of_pure c fun w=>?_
  have d:bi P g.type≠0:=fun e=>by rw[e]at hz;cases hz
  simp only[Instr.fieldAt,Sem.run_bind,ai j,Result.andThen_ok,i,Instr.sureAddr,Sem.run_pure,fieldPlace,rY hz];simp[d,oE]
theorem pG{t:TypeId}{i:TypeInfo}(_:P.info? t=some i)(a:∃d,P.underlying t=some d)(w:World):(isAgg t).run P w=.ok (pH P t) w:=by
 obtain⟨d,hd⟩:=a;simp only[isAgg,Sem.run_bind,ai hd,Result.andThen_ok];unfold pH;rw[hd];cases d<;>rfl
theorem sZ{c:BinOp}{k k':IntKind}{a b:Int}{K:RK}{h:ac}(g:c=.shl∨c=.shr)(f:Cd c k a b K):Yv P (Op.shift c k a k' b) K h:=by
 rcases g with rfl|rfl
 ·obtain⟨d,e⟩:=f
  refine .of_pure e fun w=>?_
  simp[Op.shift,Int.not_lt.2 d]
 ·obtain⟨d,e⟩:=f
  refine .of_pure e fun w=>?_
  simp[Op.shift,Int.not_lt.2 d]
theorem CL{c:BinOp}{k:IntKind}{a b:Int}{K:RK}{h:ac}(d:Iu c k a b K)(g:c≠ .shl∧c≠ .shr):Yv P (binOp c 0 (.int k a) (.int k b)) K h:=by
 cases c<;>simp only[Iu]at d
 case quo=>obtain⟨e,f⟩:=d;exact .of_pure f fun w=>by simp[binOp,Op.intDiv,e]
 case rem=>obtain⟨e,f⟩:=d;exact .of_pure f fun w=>by simp[binOp,Op.intDiv,e]
 all_goals exact .of_pure d fun w=>by simp[binOp,Op.intArith,Op.intBits,Op.intCmp]
theorem xY(c:BinOp)(t:TypeId)(k k':IntKind)(a b:Int):binOp c t (.int k a) (.int k' b)=binOp c 0 (.int k a) (.int k' b):=by
 cases c<;>rfl
theorem Cb{d:BinOp}{t:TypeId}{a b:ByteArray}{K:RK}{h:ac}(c:Ie d a b K):Yv P (binOp d t (.string a) (.string b)) K h:=by
 cases d<;>simp only[Ie]at c
 case add=>
  obtain⟨f,e⟩:=c;refine .of_pure e fun w=>?_
  have:¬(((a.size+b.size:Nat):Int)>IntKind.i64.max):=by
   have:IntKind.i64.max=9223372036854775807:=by decide
   omega
  simp only[binOp,Op.stringOp,if_neg this,Sem.run_pure]
 all_goals exact .of_pure c fun w=>by simp[binOp,Op.stringOp]
theorem lK{t:TypeId}{x y:Value}{b:Bool}{w:World}(h:∀d,(Op.equalIn (d+1) t x y).run P w=.ok b w):(Op.equal t x y).run P w=.ok b w:=h 9999
theorem xM{t:TypeId}{e:TypeId}(c:P.underlying t=some (.pointer e))(a:Option Addr)(w:World):(Op.equal t (.pointer a) (.pointer none)).run P w=.ok a.isNone w:=by
 refine lK fun d=>?_
 simp only[Op.equalIn,Sem.run_bind,ai c,Result.andThen_ok];cases a<;>rfl
theorem CY(e:BinOp)(t:TypeId)(x y:Operand)(a b:Value)(h:∀c d,a=.agg c→b=.agg d→False)(hi:a=.nilIface→b=.nilIface→False)(w:World):
  (eqGuard e t x y a b).run P w=.ok () w:=by
 cases e;case eql=>cases a<;>cases b<;>first|rfl|exact(hi rfl rfl).elim|exact(h _ _ rfl rfl).elim
 case neq=>cases a<;>cases b<;>first|rfl|exact(hi rfl rfl).elim|exact(h _ _ rfl rfl).elim
 all_goals rfl
theorem EO(t:TypeId)(x y:Value)(hx:∀k a,x≠ .int k a)(c:∀s,x≠ .string s)(d:∀k a,x≠ .float k a)(hc:∀k a b,x≠ .complex k a b):binOp .eql t x y=(do pure (.bool (←Op.equal t x y))):=by
 cases x<;>first|rfl|exact absurd rfl (hx _ _)|exact absurd rfl (c _)|exact absurd rfl (d _ _)|exact absurd rfl (hc _ _ _)
theorem EN(t:TypeId)(x y:Value)(hx:∀k a,x≠ .int k a)(c:∀s,x≠ .string s)(d:∀k a,x≠ .float k a)(hc:∀k a b,x≠ .complex k a b):binOp .neq t x y=(do pure (.bool (!(←Op.equal t x y)))):=by
 cases x<;>first|rfl|exact absurd rfl (hx _ _)|exact absurd rfl (c _)|exact absurd rfl (d _ _)|exact absurd rfl (hc _ _ _)
theorem lL{t:TypeId}{neg:Bool}{x y:Value}{b:Bool}{w:World}(e:(Op.equal t x y).run P w=.ok b w)
  (hx:∀k a,x≠ .int k a)(c:∀s,x≠ .string s)(d:∀k a,x≠ .float k a)(hc:∀k a b,x≠ .complex k a b):
  (binOp (bif neg then .neq else .eql) t x y).run P w=.ok (.bool (bif neg then !b else b)) w:=by
 cases neg
 ·simp only[cond_false,EO t x y hx c d hc,Sem.run_bind,e,Result.andThen_ok,Sem.run_pure]
 ·simp only[cond_true,EN t x y hx c d hc,Sem.run_bind,e,Result.andThen_ok,Sem.run_pure]
theorem xy{t:TypeId}{neg:Bool}{x y:Value}{K:RK}{h:ac}(f:He P t neg x y K):
  (∀c d,x=.agg c→y=.agg d→False)∧(x=.nilIface→y=.nilIface→False)∧Yv P (binOp (bif neg then .neq else .eql) t x y) K h:=by
 unfold He at f;split at f
 ·rename_i e a hu
  refine⟨nofun,nofun,.of_pure f fun w=>?_⟩
  exact lL (xM hu a w) nofun nofun nofun nofun
 ·rename_i k e a hu
  refine⟨nofun,nofun,.of_pure f fun w=>?_⟩
  refine lL ?_ nofun nofun nofun nofun;refine lK fun d=>?_
  simp only[Op.equalIn,Sem.run_bind,ai hu,Result.andThen_ok];cases a<;>rfl
 ·rename_i e a _ _ _ _ hu
  refine⟨nofun,nofun,.of_pure f fun w=>?_⟩
  refine lL ?_ nofun nofun nofun nofun;refine lK fun d=>?_
  simp only[Op.equalIn,Sem.run_bind,ai hu,Result.andThen_ok];cases a<;>rfl
 ·exact f.elim
theorem qj{w:World}{a b:Addr}(d:eI w.heap a)(f:eI w.heap b):(sameAddr a b).run P w=.ok (a==b) w:=by
 obtain⟨j,u,d,y⟩:=d;obtain⟨i,t,f,sb⟩:=f;by_cases c:a.block=b.block
 ·simp[sameAddr,c]
 ·have g:(a==b)=false:=by
   rw[beq_eq_false_iff_ne];intro e;exact c (by rw[e])
  have x:w.shape? a.block=some (u,j.size):=by simp[World.shape?,d]
  have p:w.shape? b.block=some (t,i.size):=by simp[World.shape?,f]
  have s:∀n,w.frozen? ({block:=a.block,off:=n}:Addr)=false:=fun n=>by simp[World.frozen?,d]
  have v:∀n,w.frozen? ({block:=b.block,off:=n}:Addr)=false:=fun n=>by simp[World.frozen?,f]
  have q:w.frozen? a=false:=by simp[World.frozen?,d]
  have o:w.frozen? b=false:=by simp[World.frozen?,f]
  obtain⟨m,hm⟩:∃m,j.size=m+1:=⟨j.size-1,by omega⟩
  obtain⟨n,k⟩:∃n,i.size=n+1:=⟨i.size-1,by omega⟩
  simp[sameAddr,c,noView,viewAt,mayBeOne,stringish,x,p,s,v,q,o,hm,k,g]
theorem zm{t:TypeId}{neg:Bool}{x y:Value}{K:RK}{h:ac}(g:JL P t neg x y K h):
  (∀c d,x=.agg c→y=.agg d→False)∧(x=.nilIface→y=.nilIface→False)∧Yv P (binOp (bif neg then .neq else .eql) t x y) K h:=by
 unfold JL at g;split at g
 ·rename_i a b hu
  refine⟨nofun,nofun,.of_pure g fun w=>?_⟩
  refine lL ?_ nofun nofun nofun nofun;refine lK fun d=>?_
  simp only[Op.equalIn,Sem.run_bind,ai hu,Result.andThen_ok,Sem.run_pure]
 ·rename_i e a b hu
  obtain⟨j,p,m⟩:=g;refine⟨nofun,nofun,_,_,m,p,fun w o=>?_⟩
  refine lL ?_ nofun nofun nofun nofun;have f:aV (bi P e) 0=false:=by
   cases hb:aV (bi P e) 0 with
   |false=>rfl
   |true=>rw[hb]at j;exact j.elim
  have i:bi P e≠0:=fun e=>by rw[e]at f;cases f
  refine lK fun d=>?_
  simp only[Op.equalIn,Sem.run_bind,ai hu,Result.andThen_ok];cases a with
  |none=>cases b<;>rfl
  |some a=>cases b with
   |none=>rfl
   |some b=>
    obtain⟨k,n⟩:=o a b rfl rfl;simp only[Sem.run_bind,rY f,Result.andThen_ok,ne_eq,i,not_false_eq_true,if_true,qj k n];rfl
 ·exact g.elim
theorem Cr{f:BinOp}{t:TypeId}{x y:Value}{K:RK}{h:ac}(e:Il P f t x y K h):
  (∀c d,x=.agg c→y=.agg d→False)∧(x=.nilIface→y=.nilIface→False)∧Yv P (binOp f t x y) K h:=by
 unfold Il at e;split at e
 ·rename_i k a k' b
  refine⟨nofun,nofun,?_⟩;rw[xY];split at e
  ·exact sZ (k':=k') (.inl rfl) e
  ·exact sZ (k':=k') (.inr rfl) e
  ·rename_i h1 h2
   cases hk:Ae k' k with
   |false=>rw[hk]at e;exact e.elim
   |true=>rw[hk]at e;have:=tp hk;subst this;exact CL e ⟨h1,h2⟩
 ·exact⟨nofun,nofun,Cb e⟩
 ·split at e
  ·exact zm (neg:=false) e
  ·exact zm (neg:=true) e
  ·exact e.elim
theorem Bj{u:TypeId}{cs:List Value}{off:Nat}(a:((P.underlying u).isSome&&(P.info? u).isSome)=true){w:World}(d:pH P u=true):
  (part u cs.toArray off).run P w=.ok (.agg ((cs.drop off).take (bi P u)).toArray) w:=by
 simp only[aO,eF]at a;obtain⟨a,i,hi⟩:=a;have c:(sizeOf u).run P w=.ok (bi P u) w:=by simp[sizeOf,bR hi,bi,hi]
 simp only[part,Sem.run_bind,pG hi a,Result.andThen_ok,d,if_true,c,Sem.run_pure];congr 2
 apply bX;simp[ec]
theorem y5{u:TypeId}{cs:List Value}{off:Nat}(a:((P.underlying u).isSome&&(P.info? u).isSome)=true){w:World}(d:pH P u=false){v:Value}(hc:cs[off]? =some v):
  (part u cs.toArray off).run P w=.ok v w:=by
 simp only[aO,eF]at a;obtain⟨a,i,hi⟩:=a;have c:cs.toArray[off]? =some v:=by simpa using hc
 simp only[part,Sem.run_bind,pG hi a,Result.andThen_ok,d,cB,if_false,c,Sem.run_pure]
theorem se{h:ac}:∀{l m:List (Option Addr×Option Addr)},mM h (l++m)→mM h l∧mM h m
 | [],_,h=>⟨trivial,h⟩
 |(_,_)::_,_,h=>⟨⟨h.1,(se h.2).1⟩,(se h.2).2⟩
theorem BF{t:TypeId}{x y:Value}{b:Bool}{l:List (Option Addr×Option Addr)}(f:Gc P t x y=some (b,l)){w:World}(m:mM w.heap l)(d:Nat):
  (Op.equalIn (d+1) t x y).run P w=.ok b w:=by
 unfold Gc at f;split at f
 ·rename_i k0 k a k' c hu
  cases hk:Ae k' k with
  |false=>rw[hk]at f;cases f
  |true=>
   rw[hk]at f;have:=tp hk;subst this;cases f;exact run_equalIn_int w d t _ _ _ _ hu
 ·rename_i a c hu
  cases f;exact run_equalIn_bool w d t _ _ hu
 ·rename_i a c hu
  cases f;exact run_equalIn_string w d t _ _ hu
 ·rename_i e a c hu
  cases hz:aV (bi P e) 0 with
  |true=>rw[hz]at f;cases f
  |false=>
   rw[hz]at f;cases f;have g:bi P e≠0:=fun e=>by rw[e]at hz;cases hz
   simp only[Op.equalIn,Sem.run_bind,ai hu,Result.andThen_ok];cases a with
   |none=>cases c<;>rfl
   |some a=>cases c with
    |none=>rfl
    |some c=>
     obtain⟨j,i⟩:=m.1 a c rfl rfl;simp only[Sem.run_bind,rY hz,Result.andThen_ok,ne_eq,g,not_false_eq_true,if_true,qj j i];rfl
 ·cases f
theorem xN{rec:TypeId→List Value→List Value→Option (Bool×List (Option Addr×Option Addr))}{d:Nat}{xs ys:List Value}{w:World}
  (e:∀t us vs b l,rec t us vs=some (b,l)→mM w.heap l→(Op.equalIn (d+1) t (.agg us.toArray) (.agg vs.toArray)).run P w=.ok b w):
  ∀(fs:List Field) (b:Bool) (l:List (Option Addr×Option Addr)),Hx P rec xs ys fs=some (b,l)→mM w.heap l→(Op.eqFields (d+1) xs.toArray ys.toArray fs).run P w=.ok b w
 | [],b,l,he,_=>by cases he;rfl
 |f::fs,b,l,he,hp=>by
  unfold Hx at he;split at he
  ·cases he
  ·rename_i hn
   cases hi:((P.underlying f.type).isSome&&(P.info? f.type).isSome)with
   |false=>rw[hi]at he;cases he
   |true=>
    rw[hi]at he;simp only[cond_true]at he;split at he
    ·rename_i b1 l1 c m e1 e2
     cases he;obtain⟨g,k⟩:=se hp;have a:=xN e fs c m e2 k;have n:∃u v,(part f.type xs.toArray f.offset).run P w=.ok u w∧(part f.type ys.toArray f.offset).run P w=.ok v w∧(Op.equalIn (d+1) f.type u v).run P w=.ok b1 w:=by
      cases ha:pH P f.type with
      |true=>
       rw[ha]at e1;exact⟨_,_,Bj hi ha,Bj hi ha,e _ _ _ _ _ e1 g⟩
      |false=>
       rw[ha]at e1;simp only[cond_false]at e1;split at e1
       ·rename_i x y hx hy
        exact⟨x,y,y5 hi ha hx,y5 hi ha hy,BF e1 g d⟩
       ·cases e1
     obtain⟨u,v,i,o,j⟩:=n;simp only[Op.eqFields,ne_eq,hn,not_false_eq_true,if_true,Sem.run_bind,i,o,j,Result.andThen_ok];cases b1
     ·rfl
     ·exact a
    ·cases he
theorem sw{w:World}:∀(m:Nat) (t:TypeId) (xs ys:List Value) (b:Bool) (l:List (Option Addr×Option Addr)),Gd P m t xs ys=some (b,l)→mM w.heap l→
  ∀d,(Op.equalIn (d+m+1) t (.agg xs.toArray) (.agg ys.toArray)).run P w=.ok b w
 |0,_,_,_,_,_,he,_,_=>by cases he
 |m+1,t,xs,ys,b,l,he,hp,d=>by
  unfold Gd at he;split at he
  ·rename_i fs hu
   cases hs:P.stoodInHeld t with
   |true=>rw[hs]at he;cases he
   |false=>
    rw[hs]at he;have a:P.fieldsOf t=fs:=by simp[Program.fieldsOf,hu]
    rw[run_equalIn_struct w _ t _ _ (by rw[a];exact hu) hs,a];exact xN (d:=d+m) (fun t e vs b l f c=>sw m t e vs b l f c d) fs.toList b l he hp
  ·cases he
theorem zn{neg b:Bool}{K:RK}{h:ac}{l:List (Option Addr×Option Addr)}(a:Ko neg b K h l):∃S,K (.bool (bif neg then !b else b)) S∧GL S h∧∀h',GL S h'→mM h' l:=by
 cases l with
 |nil=>exact⟨none,a,trivial,fun _ _=>trivial⟩
 |cons p l=>exact⟨_,a.2,a.1,fun _ h=>h⟩
theorem Cs{f:BinOp}{t:TypeId}{xs ys:Array Value}{x y:Operand}{K:RK}{h:ac}(a:Im P f t xs.toList ys.toList K h):
  ∃v S,K v S∧GL S h∧∀w:World,GL S w.heap→(do eqGuard f t x y (.agg xs) (.agg ys);binOp f t (.agg xs) (.agg ys):Sem Value).run P w=.ok v w:=by
 unfold Im at a;cases hg:P.eqGuardType P.depth t with
 |true=>rw[hg]at a;exact a.elim
 |false=>
  rw[hg]at a;simp only[cond_false]at a;split at a
  ·split at a
   ·rename_i b l he
    obtain⟨S,g,e,c⟩:=zn a;refine⟨_,S,g,e,fun w d=>?_⟩
    have:=sw 10 t _ _ b l he (c _ d) 9989;simp only[Array.toArray_toList]at this;simp only[Sem.run_bind,run_eqGuard_agg w _ t x y _ _ hg,Result.andThen_ok,run_eql_struct,this];rfl
   ·exact a.elim
  ·split at a
   ·rename_i b l he
    obtain⟨S,g,e,c⟩:=zn a;refine⟨_,S,g,e,fun w d=>?_⟩
    have:=sw 10 t _ _ b l he (c _ d) 9989;simp only[Array.toArray_toList]at this;simp only[Sem.run_bind,run_eqGuard_agg w _ t x y _ _ hg,Result.andThen_ok,run_neq_struct,this];rfl
   ·exact a.elim
  ·exact a.elim
theorem Ei{c:UnOp}{x:Value}{K:RK}{h:ac}(a:JY c x K):Yv P (Op.unary c x) K h:=by
 unfold JY at a;split at a
 ·exact .of_pure a fun w=>rfl
 ·exact .of_pure a fun w=>rfl
 ·exact .of_pure a fun w=>rfl
 ·exact a.elim
theorem xX:∀(l:List UInt8) (s:ByteArray),(l.map fun b=>((b.toNat:Nat):Int)).foldl (fun r n=>r.push (d4 n.toNat)) s=⟨s.data++l.toArray⟩
 | [],s=>by simp
 |b::l,s=>by
  simp only[bN,List.foldl_cons];rw[xX l];congr 1
  have:d4 ((b.toNat:Nat):Int).toNat=b:=by simp
  rw[this];apply bX;simp[ByteArray.push]
theorem xC{e:TypeId}(h:CJ P e=true):P.underlying e=some (.int .u8):=by
 unfold CJ at h;split at h
 ·assumption
 ·cases h
theorem A5{w:World}{a:Addr}{vs:List Value}(d:Row w.heap a vs):(loadCells a vs.length).run P w=.ok vs.toArray w:=by
 have:=run_firstCells_some (P:=P) w 1 vs.length a 0 0 vs (by simp) fun j v c=>by rw[←oE];exact d j v c
 simpa[Builtin.firstCells]using this
theorem Bc{j g:TypeId}{x:Value}{K:RK}{h:ac}(f:FI P j g x K h):Yv P (convert j g x) K h:=by
 unfold FI at f;split at f
 ·rename_i k k' k'' n h1 h2
  exact .of_pure f fun w=>by simp only[convert,Sem.run_bind,ai h1,ai h2,Result.andThen_ok];rfl
 ·rename_i s h1 h2
  exact .of_pure f fun w=>by simp only[convert,Sem.run_bind,ai h1,ai h2,Result.andThen_ok];rfl
 ·rename_i e a n c h1 h2
  cases hu:CJ P e with
  |false=>rw[hu]at f;exact f.elim
  |true=>
   rw[hu]at f;obtain⟨s,t,u⟩:=f;refine⟨_,_,u,t,fun w o=>?_⟩
   rw[run_convert_bytes_string w j g e a n c h1 (xC hu) h2];obtain⟨q,o⟩:=o;rcases o with p|⟨b,rfl,y⟩
   ·have m:s=ByteArray.empty:=by
     have:s.data.toList= []:=by simpa[cg]using p
     cases s with
     |mk d=>simp at this;subst this;rfl
    cases a with
    |none=>rw[m];rfl
    |some b=>
     have z:n=0:=by rw[←q,p];rfl
     subst z;have:=A5 (P:=P) (w:=w) (a:=b) (vs:= []) fun i v f=>by simp at f
     rw[run_bytesToString w b 0 c [] (by simpa using this),m];rfl
   ·have:=A5 (P:=P) y
    rw[q]at this;rw[run_bytesToString w b n c (s.data.toList.map fun b=>((b.toNat:Nat):Int)) (by rw[this,jc];rfl),xX]
    cases s;simp[ByteArray.empty,ByteArray.emptyWithCapacity];try rfl
 ·exact f.elim
theorem Cx{u:TypeId}{cs:Array Value}{off:Nat}{K:RK}{h:ac}(e:∃d,P.underlying u=some d)(hi:∃i,P.info? u=some i)
  (a:bif pH P u then K (.agg ((cs.toList.drop off).take (bi P u)).toArray) none else(match cs.toList[off]? with|some v=>K v none|none=>False)):Yv P (part u cs off) K h:=by
 obtain⟨i,hi⟩:=hi;cases ha:pH P u with
 |true=>
  rw[ha]at a;refine .of_pure a fun w=>?_
  have f:(sizeOf u).run P w=.ok (bi P u) w:=by simp[sizeOf,bR hi,bi,hi]
  simp only[part,Sem.run_bind,pG hi e,Result.andThen_ok,ha,if_true,f,Sem.run_pure];congr 2
  apply bX;simp[ec]
 |false=>
  rw[ha]at a;simp only[cond_false]at a;cases hc:cs.toList[off]? with
  |none=>rw[hc]at a;exact a.elim
  |some v=>
   rw[hc]at a;refine .of_pure a fun w=>?_
   have c:cs[off]? =some v:=by simpa using hc
   simp only[part,Sem.run_bind,pG hi e,Result.andThen_ok,ha,cB,if_false,c,Sem.run_pure]
def p7(P:Program)(v:Option Value)(d y n:Nat):Prop:=
 match v with
 |some x=>∀c w,(Instr.sliceBound x y c).run P w=.ok n w
 |none=>n=d
theorem iU{v:Option Value}{d y:Nat}{K:Nat→Prop}(a:Gn v d y K):∃n,K n∧p7 P v d y n:=by
 unfold Gn at a;split at a
 ·exact⟨d,a,rfl⟩
 ·rename_i k i
  obtain⟨⟨e,g⟩,f⟩:=a;refine⟨i.toNat,f,fun c w=>?_⟩
  simp[Instr.sliceBound,asIntOf,e,g]
 ·exact a.elim
theorem kR{d:Bool}{len cap n l:Nat}{lo hi:Option Value}(a:p7 P hi len cap n)(c:p7 P lo 0 n l)(w:World):
  (Instr.sliceBounds d len cap lo hi none).run P w=.ok (l,n,cap) w:=by
 cases hi with
 |none=>
  cases lo with
  |none=>simp only[p7]at a c;subst a;subst c;simp[Instr.sliceBounds]
  |some lo=>simp only[p7]at a c;subst a;simp[Instr.sliceBounds,c]
 |some hi=>
  cases lo with
  |none=>simp only[p7]at a c;subst c;simp[Instr.sliceBounds,a]
  |some lo=>simp only[p7]at a c;simp[Instr.sliceBounds,a,c]
theorem uC{d:Bool}{len cap n l m:Nat}{lo:Option Value}{hi e:Value}(hm:p7 P (some e) 0 cap m)(a:p7 P (some hi) 0 m n)(c:p7 P lo 0 n l)(w:World):
  (Instr.sliceBounds d len cap lo (some hi) (some e)).run P w=.ok (l,n,m) w:=by
 cases lo with
 |none=>simp only[p7]at hm a c;subst c;simp[Instr.sliceBounds,hm,a]
 |some lo=>simp only[p7]at hm a c;simp[Instr.sliceBounds,hm,a,c]
theorem rV(a:Option Addr)(l m size:Nat):(if m=l then a else a.map (·.add (l*size)))=aF a l m size:=by
 unfold aF;split
 ·rfl
 ·congr 1;funext x;rw[oE]
theorem kT{t:TypeId}{K:Prop}(h:FR P t K):K∧∀w,(sizeOf t).run P w=.ok (bi P t) w:=by
 unfold FR at h;cases hi:P.info? t with
 |none=>rw[hi]at h;exact h.elim
 |some i=>rw[hi]at h;exact⟨h,fun w=>by simp[sizeOf,bR hi,bi,hi]⟩
theorem zR{t:TypeId}{x:Value}{f:Nat}{K:RK}{h:ac}(a:Cp P t x f K):Yv P (Instr.field t x f) K h:=by
 unfold Cp at a;split at a
 ·rename_i u off cs hf
  obtain⟨m,g,i,c,rfl,rfl⟩:=qy hf;cases hb:((P.underlying g.type).isSome&&(P.info? g.type).isSome)with
  |false=>rw[hb]at a;exact a.elim
  |true=>
   rw[hb]at a;simp only[aO,eF]at hb;obtain⟨v,S,e,d,k⟩:=Cx (cs:=cs) (off:=g.offset) (h:=h) hb.1 hb.2 a;refine⟨v,S,e,d,fun w j=>?_⟩
   have:=k w j;simp only[Instr.field,Sem.run_bind,ai i,Result.andThen_ok,c,asAgg,Sem.run_pure,this]
 ·exact a.elim
theorem uJ{t:TypeId}{x i:Value}{K:RK}{h:ac}(c:sd P t x i K):Yv P (Instr.indexAt t x i) K h:=by
 unfold sd at c;split at c
 ·rename_i n e a k i hu
  obtain⟨⟨⟨d,j⟩,g⟩,f⟩:=kT c;refine .of_pure g fun w=>?_
  simp[Instr.indexAt,asIntOf,ai hu,Instr.sureAddr,d,j,f,oE]
 ·rename_i e b len cap k i hu
  obtain⟨⟨⟨d,j⟩,a,rfl,g⟩,f⟩:=kT c;refine .of_pure g fun w=>?_
  simp[Instr.indexAt,asIntOf,ai hu,d,j,f,oE]
 ·exact c.elim
theorem zQ{t:TypeId}{x i:Value}{K:RK}{h:ac}(a:Co P t x i K):Yv P (Instr.index t x i) K h:=by
 unfold Co at a;split at a
 ·rename_i s k i hu
  obtain⟨b,d,c,e⟩:=a;refine .of_pure e fun w=>?_
  simp[Instr.index,asIntOf,ai hu,d,c]
 ·exact a.elim
theorem zO{t:TypeId}{x:Value}{lo hi g:Option Value}{K:RK}{h:ac}(c:Cm P t x lo hi g K):Yv P (Instr.sliceAt t x lo hi g) K h:=by
 unfold Cm at c;split at c
 ·rename_i s hu
  cases g with
  |some _=>exact c.elim
  |none=>
   obtain⟨n,c,f⟩:=iU (P:=P) c;obtain⟨l,c,d⟩:=iU (P:=P) c;refine .of_pure c fun w=>?_
   simp[Instr.sliceAt,Instr.slice,ai hu,kR f d]
 ·rename_i e a len cap hu
  obtain⟨c,i⟩:=kT c;cases g with
  |none=>
   obtain⟨n,c,f⟩:=iU (P:=P) c;obtain⟨l,c,d⟩:=iU (P:=P) c;refine .of_pure c fun w=>?_
   simp[Instr.sliceAt,Instr.slice,ai hu,kR f d,i,rV]
  |some m=>
   cases hi with
   |none=>exact c.elim
   |some hi=>
    obtain⟨k,c,hm⟩:=iU (P:=P) c;obtain⟨n,c,f⟩:=iU (P:=P) c;obtain⟨l,c,d⟩:=iU (P:=P) c;refine .of_pure c fun w=>?_
    simp[Instr.sliceAt,Instr.slice,ai hu,uC hm f d,i,rV]
 ·rename_i n e a hu
  obtain⟨c,i⟩:=kT c;cases g with
  |some _=>exact c.elim
  |none=>
   obtain⟨m,c,f⟩:=iU (P:=P) c;obtain⟨l,c,d⟩:=iU (P:=P) c;refine .of_pure c fun w=>?_
   have j:(some (if n=l then a else a.add (l*bi P e)))=aF (some a) l n (bi P e):=by
    rw[←rV];split<;>rfl
   simp[Instr.sliceAt,ai hu,Instr.sureAddr,kR f d,i,j]
 ·exact c.elim
def kq(d:TypeDesc)(c:CK):Prop:=(∃i,d=.int i∧c=.int i)∨(d=.string∧c=.str)∨(d=.bool∧c=.bool)
theorem qt{t:TypeId}{c:CK}{e:TypeId}(h:Bt P t=some (c,e)):∃k d,P.underlying t=some (.map k e)∧P.underlying k=some d∧kq d c:=by
 unfold Bt at h;split at h
 ·rename_i k e' hu
  split at h
  ·rename_i i hk
   simp only[bv.injEq,mE.injEq]at h;obtain⟨rfl,rfl⟩:=h;exact⟨k,_,hu,hk,.inl ⟨i,rfl,rfl⟩⟩
  ·rename_i hk
   simp only[bv.injEq,mE.injEq]at h;obtain⟨rfl,rfl⟩:=h;exact⟨k,_,hu,hk,.inr (.inl ⟨rfl,rfl⟩)⟩
  ·rename_i hk
   simp only[bv.injEq,mE.injEq]at h;obtain⟨rfl,rfl⟩:=h;exact⟨k,_,hu,hk,.inr (.inr ⟨rfl,rfl⟩)⟩
  ·cases h
 ·cases h
theorem vz{d:TypeDesc}{c:CK}(hd:kq d c)(x y:c.den):Instr.sameNow d (c.enc x) (c.enc y)=some (dR (c.enc x) (c.enc y)):=by
 rcases hd with⟨i,rfl,rfl⟩|⟨rfl,rfl⟩|⟨rfl,rfl⟩
 ·simp[Instr.sameNow,CK.enc,dR]
 ·simp[Instr.sameNow,CK.enc,dR]
 ·simp[Instr.sameNow,CK.enc,dR]
theorem vH{d:TypeDesc}{c:CK}(hd:kq d c)(x:c.den):∀(es:List MapEntry) (i:Nat),keysOf c es→
  ∃r,Instr.findNow d (c.enc x) es i=some r∧r.map (·.2)=xJ (c.enc x) es
 | [],i,_=>⟨none,rfl,rfl⟩
 |e::es,i,h=>by
  obtain⟨y,g⟩:=h e (by simp);have a:=vz hd x y;rw[←g]at a;simp only[Instr.findNow,xJ];cases hb:dR (c.enc x) e.key with
  |true=>rw[a,hb];exact⟨some (i,e.val),rfl,rfl⟩
  |false=>rw[a,hb];exact vH hd x es (i+1) fun j f=>h j (by simp[f])
theorem BK{a:Bool}{k:TypeId}{d:TypeDesc}{c:CK}(hd:kq d c)(e:P.underlying k=some d)(v:Value)(n:Nat)(w:World):(Instr.checkKey a (n+1) k v).run P w=.ok () w:=by
 unfold Instr.checkKey;simp only[Sem.run_bind,ai e,Result.andThen_ok];rcases hd with⟨i,rfl,rfl⟩|⟨rfl,rfl⟩|⟨rfl,rfl⟩<;>rfl
theorem pw{k:TypeId}{d:TypeDesc}{c:CK}(hd:kq d c)(e:P.underlying k=some d)(x:c.den){es:List MapEntry}(h:keysOf c es)(w:World):
  ∃r,(Instr.findKey k (c.enc x) es).run P w=.ok r w∧Instr.findNow d (c.enc x) es 0=some r∧r.map (·.2)=xJ (c.enc x) es:=by
 obtain⟨r,a,hm⟩:=vH hd x es 0 h;refine⟨r,?_,a,hm⟩;simp only[Instr.findKey,Sem.run_bind,ai e,Result.andThen_ok,a,Sem.run_pure]
theorem ik{w:World}{r:Nat}{es:Array MapEntry}{a:Nat}(h:w.heap[r]? =some (.map es a)):(getObj r).run P w=.ok (.map es a) w:=by
 simp only[getObj,Sem.run,h]
theorem jv{a:Bool}{k:TypeId}{d:TypeDesc}{c:CK}(hd:kq d c)(e:P.underlying k=some d)(v:Value)(w:World):(Instr.checkKey a 10000 k v).run P w=.ok () w:=
 BK hd e v 9999 w
theorem CC{t:TypeId}{c:CK}{e k:TypeId}{d:TypeDesc}(s:P.underlying t=some (.map k e))(g:P.underlying k=some d)(hd:kq d c){m:Option Nat}{x:c.den}{z v:Value}{b o:Bool}{w:World}
  (q:(zeroValue e).run P w=.ok z w)(hm:iw c z w.heap m (c.enc x) v b):
  (Instr.lookup t (.map m) (c.enc x) o).run P w=.ok (bif o then .tuple #[v,.bool b]else v) w:=by
 cases m with
 |none=>
  obtain⟨rfl,rfl⟩:=hm;simp only[Instr.lookup,Sem.run_bind,ai s,Result.andThen_ok,Sem.run_pure,jv hd g];obtain⟨r,p,n,a⟩:=pw (P:=P) hd g x (es:= []) (fun _ h=>by cases h) w
  simp only[Instr.findNow,bv.injEq]at n;subst n;simp[p,q]
 |some r=>
  obtain⟨es,j,u,i,f⟩:=hm;simp only[Instr.lookup,Sem.run_bind,ai s,Result.andThen_ok,ik u,Sem.run_pure,jv hd g];obtain⟨r,p,n,a⟩:=pw (P:=P) hd g x i w;simp only[p,Result.andThen_ok];cases r with
  |none=>
   simp only[Option.map_none]at a;rw[←a]at f;obtain⟨rfl,rfl⟩:=f;simp[q]
  |some r=>
   simp only[gZ]at a;rw[←a]at f;obtain⟨rfl,rfl⟩:=f;cases o<;>rfl
theorem cZ{e:TypeId}{z:Value}(h:rB P e=some z)(w:World):(zeroValue e).run P w=.ok z w:=by
 unfold rB at h;cases hi:P.info? e with
 |none=>rw[hi]at h;cases h
 |some i=>rw[hi]at h;simp only at h;simp[zeroValue,bR hi,h]
theorem yu{t:TypeId}{x k:Value}{f:Bool}{K:RK}{h:ac}(a:zP P t x k f K h):Yv P (Instr.lookup t x k f) K h:=by
 unfold zP at a;split at a
 ·rename_i c e m hc
  obtain⟨p,d,i,g,hd⟩:=qt hc;obtain⟨o,rfl,a⟩:=CK.dec_sound a;split at a
  ·rename_i ek z hek hz
   obtain⟨y,b,hm,n⟩:=a;exact⟨_,_,n,hm,fun w j=>CC i g hd (cZ hz w) j⟩
  ·exact a.elim
 ·exact a.elim
theorem vC{w:World}{b cap s q:Nat}{a:Array Value}{c t:Bool}(h:w.heap[b]? =some (.chan cap a c s q t)):(getObj b).run P w=.ok (.chan cap a c s q t) w:=by
 simp only[getObj,Sem.run,h]
theorem Cn{t:TypeId}{x:Value}{ats:Array TypeId}{ty:TypeId}{K:RK}{h:ac}(a:ats[0]? =some t) (d:Ij P t x K h):Yv P (Builtin.len_ ats ty #[x]) K h:=by
 unfold Ij at d;split at d
 ·rename_i s hu
  exact .of_pure d fun w=>by simp[Builtin.len_,a,ai hu,goInt]
 ·rename_i n e _ hu
  exact .of_pure d fun w=>by simp[Builtin.len_,a,ai hu,goInt]
 ·rename_i e b n c hu
  exact .of_pure d fun w=>by simp[Builtin.len_,a,ai hu,goInt]
 ·rename_i k e m hu
  obtain⟨n,hm,i⟩:=d;refine⟨_,_,i,hm,fun w f=>?_⟩
  cases m with
  |none=>
   have:n=0:=f;subst this;simp[Builtin.len_,a,ai hu,goInt]
  |some r=>
   obtain⟨es,g,j,rfl⟩:=f;simp[Builtin.len_,a,ai hu,goInt,ik j]
 ·rename_i k e m hu
  obtain⟨n,hm,i⟩:=d;refine⟨_,_,i,hm,fun w f=>?_⟩
  cases m with
  |none=>
   have:n=0:=f;subst this;simp[Builtin.len_,a,ai hu,goInt]
  |some r=>
   obtain⟨cap,o,p,s,q,j,rfl⟩:=f;simp[Builtin.len_,a,ai hu,goInt,vC j]
 ·exact d.elim
theorem Cq{t:TypeId}{x:Value}{ats:Array TypeId}{ty:TypeId}{K:RK}{h:ac}(a:ats[0]? =some t) (d:Ik P t x K h):Yv P (Builtin.cap_ ats ty #[x]) K h:=by
 unfold Ik at d;split at d
 ·rename_i e b n c hu
  exact .of_pure d fun w=>by simp[Builtin.cap_,a,ai hu,goInt]
 ·rename_i k e m hu
  obtain⟨n,hm,i⟩:=d;refine⟨_,_,i,hm,fun w f=>?_⟩
  cases m with
  |none=>
   have:n=0:=f;subst this;simp[Builtin.cap_,a,ai hu,goInt]
  |some r=>
   obtain⟨cap,g,o,s,q,j,rfl⟩:=f;simp[Builtin.cap_,a,ai hu,goInt,vC j]
 ·exact d.elim
theorem tf{c:Bool}{k:IntKind}:∀{vs:List Value} {a:Int} {f:Value→Prop},z8 c k a vs f→∃v,f v∧∀w,(vs.foldlM (bif c then Builtin.max2 else Builtin.min2) (Value.int k a):Sem Value).run P w=.ok v w
 | [],a,f,h=>⟨_,h,fun w=>by simp⟩
 | .int k' b::vs,a,f,h=>by
  simp only[z8]at h;cases hk:Ae k' k with
  |false=>rw[hk]at h;exact h.elim
  |true=>
   rw[hk]at h;have:=tp hk;subst this;obtain⟨v,e,d⟩:=tf h;refine⟨v,e,fun w=>?_⟩
   rw[←d w];cases c<;>simp[List.foldlM_cons,Builtin.max2,Builtin.min2]
theorem rI{a:Bool}{vs:List Value}{f:Value→Prop}{ats:Array TypeId}{ty:TypeId}(h:wH a vs f):∃v,f v∧∀w,(bif a then Builtin.max_ ats ty vs.toArray else Builtin.min_ ats ty vs.toArray).run P w=.ok v w:=by
 unfold wH at h;split at h
 ·obtain⟨v,d,c⟩:=tf (P:=P) h
  refine⟨v,d,fun w=>?_⟩
  have:=c w;cases a<;>simpa[Builtin.max_,Builtin.min_]using this
 ·exact h.elim
theorem ED{a:Addr}{e:MapEntry}{w:World}(g:a.off=0)(h:C9 w.heap a.block e):(Instr.entry (.pointer (some a))).run P w=.ok (.tuple #[e.key,e.val]) w:=by
 obtain⟨m,c,d,last,f,es,hi,k,hm,n⟩:=h;obtain⟨b,off,i⟩:=a;simp only at g hi;subst g;have j:(getObj b).run P w=.ok (.mapIter (some m) c d last) w:=by simp only[getObj,Sem.run,hi]
 simp[Instr.entry,j,k,ik hm,n]
def yJ:DV→Value→Prop
 | .t,v=>v=.bool true
 | .f,v=>v=.bool false
 | .u,v=>v=undef
 | .x,_=>True
def DecOk(d:pi)(r:bE):Prop:=∀t,me d t=.x∨∃v,gC r t=some v∧yJ (me d t) v
theorem DecOk.at{d:pi}{r:bE}(h:DecOk d r){t:Nat}{v:Value}(c:gC r t=some v):yJ (me d t) v:=by
 rcases h t with e|⟨u,a,f⟩
 ·rw[e];trivial
 ·rw[c]at a;cases a;exact f
theorem oW{d:pi}{r:bE}(hd:DecOk d r){o:Operand}{v:Value}(h:cf r o=some v):yJ (tC d o) v:=by
 cases o with
 |tmp t=>exact hd.at h
 |const c=>
  simp[cf]at h;subst h;cases c with
  |bool b=>cases b<;>exact rfl
  |_=>trivial
 |global g=>trivial
 |func f=>trivial
theorem vF{t:TypeId}(h:lB P t=true):∃d,P.underlying t=some d∧∀m,d≠ .interface m:=by
 unfold lB at h;split at h
 ·cases h
 ·rename_i d hd;exact⟨_,hd,fun m e=>by subst e;simp_all⟩
 ·cases h
theorem tl{t:TypeId}{v:Value}(h:lB P t=true)(w:World):(Instr.makeInterface t v).run P w=.ok (.iface t v) w:=by
 obtain⟨d,hd,a⟩:=vF h;simp only[Instr.makeInterface,Sem.run_bind,ai hd,Result.andThen_ok];cases d<;>first|exact absurd rfl (a _)|rfl
theorem w6{t u:TypeId}{v:Value}(h:lB P t=true)(w:World):(Instr.typeAssert (.iface t v) u t false).run P w=.ok v w:=by
 obtain⟨d,hd,a⟩:=vF h;simp only[Instr.typeAssert,Sem.run_bind,ai hd,Result.andThen_ok];cases d<;>first|exact absurd rfl (a _)|(simp[Sem.run_pure])
theorem gA{t:TypeId}{z:List Value}(h:lX P t=some z):∃v,rB P t=some v∧v.cells.toList=z:=by
 unfold lX at h;cases hz:rB P t with
 |none=>rw[hz]at h;cases h
 |some v=>rw[hz]at h;simp only[bv.injEq]at h;exact⟨v,rfl,h⟩
theorem mz{t:TypeId}{v:Value}(h:rB P t=some v):∃i,P.info? t=some i∧i.zero=some v:=by
 unfold rB at h;cases hi:P.info? t with
 |none=>rw[hi]at h;cases h
 |some i=>rw[hi]at h;exact⟨i,rfl,h⟩
theorem Gf{A B:List Value}{x:Value}{m:Nat}(h:A.length=m):(A++x::B).take (m+1)=A++ [x]:=by
 subst h;rw[List.take_append,be (by omega),show A.length+1-A.length=1 by omega];rfl
theorem Gh{A B:List Value}{x:Value}{m n:Nat}(h:A.length=m):(A++x::B).drop (m+1+n)=B.drop n:=by
 subst h;rw[List.drop_append,List.drop_eq_nil_of_le (by omega),show A.length+1+n-A.length=n+1 by omega];rfl
theorem BB(off:Nat):∀(xs:List Value) (k:Nat) (arr:Array Value),off+k+xs.length≤arr.size→
  (xs.zipIdx k).foldl (fun cs (c,j)=>cs.setIfInBounds (off+j) c) arr=(Bg arr.toList (off+k) xs).toArray
 | [],k,arr,_=>by simp[Bg]
 |x::xs,k,arr,h=>by
  simp only[aI]at h;simp only[List.zipIdx_cons,List.foldl_cons];rw[BB off xs (k+1) _ (by simp;omega)];have hm:off+k<arr.toList.length:=by simp;omega
  have d:arr.toList.set (off+k) x=arr.toList.take (off+k)++x::arr.toList.drop (off+k+1):=by
   rw[List.set_eq_take_append_cons_drop,if_pos hm]
  have a:(arr.toList.take (off+k)).length=off+k:=by simp;omega
  congr 1
  unfold Bg;rw[Array.toList_setIfInBounds,d,←Nat.add_assoc,Gf a,Gh a];simp only[List.append_assoc,cR,List.nil_append,aI,List.drop_drop];rw[show off+k+1+xs.length=off+k+(xs.length+1) by omega]
theorem nH{a:Nat→Option (Nat×Nat)}:∀(parts:List (Nat×Value)) (cs cs':List Value),vI a cs parts=some cs'→Instr.fill a cs.toArray parts=some cs'.toArray
 | [],cs,cs',h=>by simp only[vI,bv.injEq]at h;subst h;rfl
 |(i,v)::rest,cs,cs',h=>by
  simp only[vI]at h;cases hp:a i with
  |none=>rw[hp]at h;cases h
  |some os=>
   obtain⟨off,size⟩:=os;rw[hp]at h;simp only at h;cases hb:(aV v.cells.toList.length size&&Nat.ble (off+v.cells.toList.length) cs.length)with
   |false=>rw[hb]at h;cases h
   |true=>
    rw[hb]at h;simp only[aO]at hb;have f:=az hb.1;have d:=kN hb.2;have e:=nH rest _ _ h;have c:v.cells.size=size:=by simpa using f
    have g:off+v.cells.size≤cs.length:=by simpa using d
    have j:Array.foldl (fun cs x=>cs.setIfInBounds (off+x.2) x.1) cs.toArray v.cells.zipIdx=(Bg cs off v.cells.toList).toArray:=by
     have:=BB off v.cells.toList 0 cs.toArray (by simpa using g);simp only[eG]at this;rw[←this,←Array.foldl_toList];congr 1
     simp[Array.toList_zipIdx]
    simp only[Instr.fill,hp];rw[if_neg (by simp[c];omega)];simp only[j];exact e
theorem j7{N:Nat}{r:bE}{a:Act}(h:Agree N r a):∀{ps:List (Nat×Operand)} {vs:List (Nat×Value)},lA r ps=some vs→ps.map (fun p=>(p.1,a.eval p.2))=vs
 | [],vs,hv=>by simp[lA]at hv;subst hv;rfl
 |(i,o)::ps,vs,hv=>by
  simp only[lA]at hv;cases ho:cf r o with
  |none=>simp[ho]at hv
  |some v=>cases hos:lA r ps with
   |none=>simp[ho,hos]at hv
   |some us=>simp[ho,hos]at hv;subst hv;simp[gD h ho,j7 h hos]
theorem lH{t:TypeId}(h:ra P t=true)(w:World):(sizeOf t).run P w=.ok (bi P t) w:=by
 unfold ra at h;cases hi:P.info? t with
 |none=>rw[hi]at h;cases h
 |some i=>simp[sizeOf,bR hi,bi,hi]
theorem xu(w:World):∀l:List Field,tI P l=true→(l.mapM fun f:Field=>((do pure (f.offset,←sizeOf f.type)):Sem (Nat×Nat))).run P w=.ok (l.map fun f:Field=>(f.offset,bi P f.type)) w
 | [],_=>rfl
 |f::l,h=>by
  simp only[tI]at h;cases hf:ra P f.type with
  |false=>rw[hf]at h;cases h
  |true=>
   rw[hf]at h;rw[List.mapM_cons];simp only[Sem.run_bind,lH hf,Result.andThen_ok,Sem.run_pure,xu w l h,bN]
theorem tG{t:TypeId}{ps:Array (Nat×Value)}{cs:List Value}(a:Ap P t ps.toList=some cs)(w:World):
  (Instr.build t ps).run P w=.ok (.agg cs.toArray) w:=by
 unfold Ap at a;split at a
 ·rename_i fs z hu d
  obtain⟨v,d,m⟩:=gA d;cases ha:tI P fs.toList with
  |false=>rw[ha]at a;cases a
  |true=>
   rw[ha]at a;have k:(fs.mapM fun f:Field=>((do pure (f.offset,←sizeOf f.type)):Sem (Nat×Nat))).run P w=.ok (fs.map fun f:Field=>(f.offset,bi P f.type)) w:=by
    rw[Array.mapM_eq_mapM_toList];simp only[Sem.run_map,xu w fs.toList ha,Result.andThen_ok];congr 1
    apply bX;simp
   have j:=nH _ _ _ a;have c:(fun i:Nat=>(fs.map fun f:Field=>(f.offset,bi P f.type))[i]?)=Cw P fs.toList:=by
    funext i;unfold Cw;rw[Array.getElem?_map,aJ];cases fs[i]?<;>rfl
   have g:v.cells=z.toArray:=by rw[←m]
   rw[cond_true]at a;rw[←c]at j;simp only[Instr.build,Sem.run_bind,cZ d,Result.andThen_ok,ai hu,k,g,j,Sem.run_pure]
 ·rename_i n e z hu d
  obtain⟨v,d,m⟩:=gA d;cases ha:ra P e with
  |false=>rw[ha]at a;cases a
  |true=>
   rw[ha]at a;have j:=nH _ _ _ a;have g:v.cells=z.toArray:=by rw[←m]
   simp only[Instr.build,Sem.run_bind,cZ d,Result.andThen_ok,ai hu,lH ha,g,j,Sem.run_pure]
 ·cases a
theorem uI{ek:Option (Kind×Kind)}{o:Oper}{r:bE}{K:RK}{h:ac}{N:Nat}{a:Act}(T:Agree N r a)(g:uv P ek o.op r K h)(d:pi)(hd:DecOk d r):
  ∃v S,K v S∧GL S h∧yJ (AJ d o.op) v∧∀w:World,GL S w.heap→(execOp a.eval o).run P w=.ok (.value v) w:=by
 have j:∀{x:Operand} {v:Value},cf r x=some v→a.eval x=v:=fun h=>gD T h
 have z:∀{s:Sem Value},Yv P s K h→AJ d o.op=.x→(∀w,(execOp a.eval o).run P w=(do pure (Next.value (←s)):Sem Next).run P w)→
   ∃v S,K v S∧GL S h∧yJ (AJ d o.op) v∧∀w:World,GL S w.heap→(execOp a.eval o).run P w=.ok (.value v) w:=by
  rintro s ⟨v,S,q,B,A⟩ hx G;exact⟨v,S,q,B,by rw[hx];trivial,fun w D=>by rw[G w];exact fJ (A w D)⟩
 obtain⟨R,Q,type,pos,F,H⟩:=o;simp only at g z⊢;cases Q with
 |move x=>
  simp only[uv]at g;split at g
  ·rename_i v hv
   exact⟨v,none,g,trivial,oW hd hv,fun w _=>by simp[execOp,j hv]⟩
  ·exact g.elim
 |assign x=>
  simp only[uv]at g;split at g
  ·rename_i v hv
   exact⟨v,none,g,trivial,oW hd hv,fun w _=>by simp[execOp,j hv]⟩
  ·exact g.elim
 |pick c x y=>
  simp only[uv]at g;split at g
  ·rename_i vc va vb hc hx U
   unfold HU at g;split at g
   ·rename_i cb
    have L:=oW hd hc;have V:=oW hd hx;have hyo:=oW hd U;have G:∀w,(execOp a.eval ⟨R,.pick c x y,type,pos,F,H⟩).run P w=.ok (.value (if cb then va else vb)) w:=fun w=>by
     simp[execOp,j hc,j hx,j U,asBool]
    have J:yJ (AJ d (.pick c x y)) (if cb then va else vb):=by
     simp only[AJ];cases hcd:tC d c with
     |t=>
      rw[hcd]at L;have:cb=true:=by simpa[yJ]using L
      subst this;exact V
     |f=>
      rw[hcd]at L;have:cb=false:=by simpa[yJ]using L
      subst this;exact hyo
     |u=>trivial
     |x=>trivial
    split at g
    ·rename_i bx by'
     have O:(if cb=true then Value.bool bx else Value.bool by')=.bool (bif cb then bx else by'):=by cases cb<;>rfl
     rw[O]at J;exact⟨_,none,g,trivial,J,fun w _=>by rw[G w,O]⟩
    ·cases cb
     ·exact⟨_,none,g,trivial,J,fun w _=>G w⟩
     ·exact⟨_,none,g,trivial,J,fun w _=>G w⟩
   ·exact g.elim
  ·exact g.elim
 |load t x=>
  simp only[uv]at g;split at g
  ·rename_i v hv
   obtain⟨u,S,q,B,A⟩:=vE g;exact z ⟨u,some S,q,B,A⟩ rfl fun w=>by simp only[execOp,j hv]
  ·exact g.elim
 |nilCheck x=>
  simp only[uv]at g;split at g
  ·rename_i p hv
   obtain⟨b,rfl,q⟩:=g;exact⟨_,none,q,trivial,trivial,fun w _=>by simp[execOp,j hv]⟩
  ·exact g.elim
 |binOp Q t x y yt=>
  simp only[uv]at g;split at g
  ·rename_i v u hv hu
   obtain⟨Y,S,q,B,A⟩:=Cs (x:=x) (y:=y) g;refine⟨Y,S,q,B,trivial,fun w D=>?_⟩
   simp only[execOp,j hv,j hu];exact fJ (A w D)
  ·rename_i v u hna hv hu
   have go:(∀c d,v=.agg c→u=.agg d→False)∧(v=.nilIface→u=.nilIface→False)∧Yv P (binOp Q t v u) K h:=by
    split at g
    ·exact xy (neg:=false) g
    ·exact xy (neg:=true) g
    ·exact Cr g
   obtain⟨h1,h2,Y,S,q,B,A⟩:=go;refine⟨Y,S,q,B,trivial,fun w D=>?_⟩
   simp only[execOp,j hv,j hu];simp[CY Q t x y v u h1 h2 w,A w D]
  ·exact g.elim
 |unOp Q t x=>
  simp only[uv]at g;split at g
  ·rename_i v hv
   obtain⟨u,S,q,B,A⟩:=Ei (P:=P) (h:=h) g;refine⟨u,S,q,B,?_,fun w D=>by simp only[execOp,j hv];exact fJ (A w D)⟩
   have I:=oW hd hv;cases Q<;>try trivial
   simp only[AJ];have C:=A {(default:World)with heap:=h} B;cases hx:tC d x with
   |t=>
    rw[hx]at I;have:v=.bool true:=I;subst this;simp[Op.unary]at C;exact C.symm
   |f=>
    rw[hx]at I;have:v=.bool false:=I;subst this;simp[Op.unary]at C;exact C.symm
   |u=>trivial
   |x=>trivial
  ·exact g.elim
 |convert s t x=>
  simp only[uv]at g;split at g
  ·rename_i v hv
   exact z (Bc g) rfl fun w=>by simp only[execOp,j hv]
  ·exact g.elim
 |extract x i=>
  simp only[uv]at g;split at g
  ·rename_i vs hv
   split at g
   ·rename_i u hu
    have X:vs[i]? =some u:=by simpa using hu
    exact⟨u,none,g,trivial,trivial,fun w _=>by simp[execOp,j hv,Instr.extract,X]⟩
   ·exact g.elim
  ·exact g.elim
 |fieldAddr t x f=>
  simp only[uv]at g;split at g
  ·rename_i b u off hv hf
   exact z (wh hf g) rfl fun w=>by simp only[execOp,j hv]
  ·exact g.elim
 |field t x f=>
  simp only[uv]at g;split at g
  ·rename_i v hv
   exact z (zR g) rfl fun w=>by simp only[execOp,j hv]
  ·exact g.elim
 |indexAddr t x i=>
  simp only[uv]at g;split at g
  ·rename_i v u hv hu
   exact z (uJ g) rfl fun w=>by simp only[execOp,j hv,j hu]
  ·exact g.elim
 |index t x i=>
  simp only[uv]at g;split at g
  ·rename_i v u hv hu
   exact z (zQ g) rfl fun w=>by simp only[execOp,j hv,j hu]
  ·exact g.elim
 |slice t x lo hi mx=>
  simp only[uv]at g;split at g
  ·rename_i v l h' m hv hl hh hm
   have Z:∀{x:Option Operand} {v:Option Value},y7 r x=some v→x.map a.eval=v:=by
    intro x v hx;cases x with
    |none=>simp[y7]at hx;subst hx;rfl
    |some x=>
     simp only[y7]at hx;cases G:cf r x with
     |none=>simp[G]at hx
     |some u=>simp[G]at hx;subst hx;simp[j G]
   exact z (zO g) rfl fun w=>by simp only[execOp,j hv,Z hl,Z hh,Z hm]
  ·exact g.elim
 |lookup t x k ok=>
  simp only[uv]at g;split at g
  ·rename_i v u hv hu
   exact z (yu g) rfl fun w=>by simp only[execOp,j hv,j hu]
  ·exact g.elim
 |makeInterface t x=>
  simp only[uv]at g;split at g
  ·rename_i v hv
   cases hb:lB P t with
   |false=>rw[hb]at g;exact g.elim
   |true=>
    rw[hb,cond_true]at g;exact⟨_,none,g,trivial,trivial,fun w _=>by simp only[execOp,j hv];exact fJ (tl hb w)⟩
  ·exact g.elim
 |typeAssert x u t ok=>
  simp only[uv]at g;split at g
  ·rename_i v hv
   cases ok with
   |true=>exact g.elim
   |false=>
    rw[cond_false]at g;unfold DC at g;cases hb:lB P t with
    |false=>rw[hb]at g;exact g.elim
    |true=>
     rw[hb,cond_true]at g;split at g
     ·obtain⟨y,rfl,q⟩:=g
      exact⟨_,none,q,trivial,trivial,fun w _=>by simp only[execOp,j hv];exact fJ (w6 hb w)⟩
     ·exact g.elim
  ·exact g.elim
 |makeFunc fn first cap=>
  simp only[uv]at g;split at g
  ·rename_i vs us hv hu
   have O:=iJ T hv;have e2:=iJ T hu;refine⟨_,none,g,trivial,trivial,fun w _=>?_⟩
   have W:first.map a.eval=vs.toArray:=by rw[←O];apply bX;simp
   have f2:cap.map a.eval=us.toArray:=by rw[←e2];apply bX;simp
   simp[execOp,Instr.makeFunc,W,f2]
  ·exact g.elim
 |entry it=>
  simp only[uv]at g;split at g
  ·rename_i b kk vk hv
   obtain⟨h0,e,x,y,hi,q,U,hK⟩:=g;refine⟨_,_,hK,hi,trivial,fun w D=>?_⟩
   simp only[execOp,j hv];refine fJ ?_;rw[ED h0 D,q,U]
  ·exact g.elim
 |call c=>
  simp only[uv]at g;have E:∀{b:Builtin} {vs:List Value},c.callee=.builtin b→jK r c.args.toList=some vs→∃cs:Array Bool,∀w,(execOp a.eval ⟨R,.call c,type,pos,F,H⟩).run P w=
    (builtin b c.argTypes type cs vs.toArray).run P w:=by
   intro b vs hc n;have O:=iJ T n;have W:c.args.map a.eval=vs.toArray:=by rw[←O];apply bX;simp
   refine⟨c.args.map fun| .const _=>true|_=>false,fun w=>?_⟩
   simp[execOp,resolve,hc,W,invoke];rfl
  split at g
  ·rename_i v t hc n hat
   obtain⟨cs,E⟩:=E hc n;obtain⟨u,S,q,B,A⟩:=Cn (ats:=c.argTypes) (ty:=type) (by rw[←aJ,hat];rfl) g;exact⟨u,S,q,B,trivial,fun w D=>by rw[E w];simp only[builtin];exact fJ (A w D)⟩
  ·rename_i v t hc n hat
   obtain⟨cs,E⟩:=E hc n;obtain⟨u,S,q,B,A⟩:=Cq (h:=h) (ats:=c.argTypes) (ty:=type) (by rw[←aJ,hat];rfl) g;exact⟨u,S,q,B,trivial,fun w D=>by rw[E w];simp only[builtin];exact fJ (A w D)⟩
  ·rename_i vs hc n
   obtain⟨cs,E⟩:=E hc n;obtain⟨u,q,A⟩:=rI (P:=P) (ats:=c.argTypes) (ty:=type) g;exact⟨u,none,q,trivial,trivial,fun w _=>by rw[E w];simp only[builtin];exact fJ (A w)⟩
  ·rename_i vs hc n
   obtain⟨cs,E⟩:=E hc n;obtain⟨u,q,A⟩:=rI (P:=P) (ats:=c.argTypes) (ty:=type) g;exact⟨u,none,q,trivial,trivial,fun w _=>by rw[E w];simp only[builtin];exact fJ (A w)⟩
  ·exact g.elim
 |build t ps=>
  simp only[uv]at g;split at g
  ·rename_i vs n
   split at g
   ·rename_i cs hcs
    refine⟨_,none,g,trivial,trivial,fun w _=>?_⟩
    have hp:(ps.map fun x=>(x.1,a.eval x.2))=vs.toArray:=by
     rw[←j7 T n];apply bX;simp
    have G:=tG (ps:=vs.toArray) (by simpa using hcs) w;simp only[execOp];rw[show(ps.map fun(i,x)=>(i,a.eval x))=vs.toArray from hp]
    exact fJ G
   ·exact g.elim
  ·exact g.elim
 |_=>simp only[uv]at g
end Go.Lift
namespace Go.Lift
open Go
variable {P:Program}
def BN(P:Program)(s:Sem Next)(K:WK)(w:World):Prop:=
 (∃v a,s.run P w=.ok (.value v) a∧Tame w a∧K v a.heap)∨
 (∃a,s.run P w=.ok .skip a∧Tame w a∧K undef a.heap)∨
 (∃f args,s.run P w=.ok (.enter f args) w∧Calls P f args w fun e a=>Tame w a∧∃v,e=.returned v∧K v a.heap)∨
 (∃l fn tmps assign body,s.run P w=.ok (.round l fn tmps assign body) w∧
  ∀(c:Frame) (cs:List Frame),∃b a,Tame w a∧K (.bool b) a.heap∧Steps P (lone (Frame.round l fn tmps assign body .normal) (c::cs) w) (lone (c.finish (.bool b)) cs a))
def Wv(P:Program)(s:Sem Value)(K:WK)(w:World):Prop:=∃v w',s.run P w=.ok v w'∧Tame w w'∧K v w'.heap
theorem Wv.out{s:Sem Value}{K:WK}{w:World}(h:Wv P s K w):BN P (do pure (Next.value (←s))) K w:=by
 obtain⟨v,d,c,a,e⟩:=h;exact .inl ⟨v,d,fJ c,a,e⟩
def Wu(P:Program)(s:Sem Unit)(K:WK)(w:World):Prop:=∃w',s.run P w=.ok () w'∧Tame w w'∧K undef w'.heap
theorem Wu.out{s:Sem Unit}{K:WK}{w:World}(h:Wu P s K w):BN P (do s;pure Next.skip) K w:=by
 obtain⟨d,c,a,e⟩:=h;exact .inr (.inl ⟨d,FE c,a,e⟩)
def gB(w:World)(h:ac):World:={w with heap:=h}
theorem cY(w:World)(h:ac):Tame w (gB w h):=⟨rfl,rfl,rfl⟩
theorem gI(e:TypeId)(cs:Array Value)(w:World):(newRow e cs).run P w=.ok (aZ w.heap) (gB w (hnew w.heap cs.toList e)):=by
 simp[newRow,newObj,Sem.run,aZ,gB,hnew,bind,Sem.bind,pure]
theorem xo(o:Obj)(w:World):(newObj o).run P w=.ok w.heap.size (gB w (w.heap.push o)):=rfl
theorem yy{h:ac}{a b:Addr}(v:Value)(c:a≠b):bc (hset h a v) b=bc h b:=
 World.cell?_setCell_other {(default:World)with heap:=h} a b v c
theorem we{h:ac}{a:Addr}{u:Value}(v:Value)(hc:bc h a=some u):bc (hset h a v) a=some v:=
 World.cell?_setCell_same {(default:World)with heap:=h} a v hc
theorem Af{h:ac}{a b:Addr}(v:Value):wL (hset h a v) b=wL h b:=
 World.frozen?_setCell {(default:World)with heap:=h} a b v
theorem Wr.hset{h:ac}{a b:Addr}(v:Value)(f:Wr h b):Wr (hset h a v) b:=by
 obtain⟨⟨u,c⟩,d⟩:=f;refine⟨?_,by rw[Af];exact d⟩
 by_cases e:a=b
 ·subst e;exact⟨v,we v c⟩
 ·exact⟨u,by rw[yy v e];exact c⟩
theorem Ch{w:World}{a:Addr}{v:Value}(f:∀cs,v≠ .agg cs)(e:∀cs,v≠ .tuple cs)(i:Wr w.heap a):(store a v).run P w=.ok () (gB w (hset w.heap a v)):=by
 obtain⟨⟨u,g⟩,j⟩:=i;have d:w.cell? a=some u:=g;have c:w.frozen? a=false:=j;cases v<;>first|exact absurd rfl (f _)|exact absurd rfl (e _)|(simp only[store,Sem.run,d,c];rfl)
theorem zY{v:Value}{vs:List Value}(h:bq (v::vs)=true):(∀cs,v≠ .agg cs)∧(∀cs,v≠ .tuple cs)∧bq vs=true:=by
 simp only[bq,aO]at h;refine⟨fun cs e=>?_,fun cs e=>?_,h.2⟩<;>(subst e;exact absurd h.1 (by simp))
theorem mK{a:Addr}:∀(vs:List Value) (i:Nat) (w:World),bq vs=true→(∀j,j<vs.length→Wr w.heap (adr a (i+j)))→
  (storeCells a vs i).run P w=.ok () (gB w (jd w.heap a i vs))
 | [],i,w,_,_=>rfl
 |v::vs,i,w,c,hw=>by
  obtain⟨n1,e,c⟩:=zY c;have d:=hw 0 (by simp);simp only[eG]at d;have f:a.add i=adr a i:=(oE a i).symm;simp only[storeCells,f,Sem.run_bind,Ch n1 e d,Result.andThen_ok];rw[mK vs (i+1) (gB w (hset w.heap (adr a i) v)) c fun j g=>?_]
  ·rfl
  ·have:=hw (j+1) (by simp only[aI];omega)
   rw[show i+1+j=i+(j+1) by omega]
   exact this.hset v
theorem zg{a:Addr}(m:Nat):∀(vs:List Value) (i:Nat) (h:ac),jd h (adr a m) i vs=jd h a (m+i) vs
 | [],_,_=>rfl
 |v::vs,i,h=>by
  simp only[jd];rw[zg m vs (i+1),tL];rfl
theorem zz{t:TypeId}{a v:Value}{K:WK}{w:World}(c:B4 P t a v K w.heap):Wu P (Instr.storeAt t a v) K w:=by
 unfold B4 at c;split at c
 ·rename_i a
  cases hb:(aV v.cells.toList.length (bi P t)&&bq v.cells.toList)with
  |false=>rw[hb]at c;exact c.elim
  |true=>
   rw[hb]at c;simp only[aO]at hb;have n:=az hb.1;obtain⟨c,o⟩:=kT c;have k:v.cells.size=bi P t:=by simpa using n
   have m:(∀j,j<v.cells.toList.length→Wr w.heap (adr a (0+j)))→(Instr.storeAt t (.pointer (some a)) v).run P w=.ok () (gB w (jd w.heap a 0 v.cells.toList)):=by
    intro d;have:=mK (P:=P) v.cells.toList 0 w hb.2 d;simp[Instr.storeAt,Instr.sureAddr,storeVar,o,k,this]
   split at c
   ·rename_i u hu
    obtain⟨d,g⟩:=c;refine⟨_,m (fun j f=>?_),cY _ _,?_⟩
    ·rw[hu]at f;simp only[aI,List.length_nil]at f
     obtain rfl:j=0:=by omega
     exact d
    ·rw[hu];exact g
   ·obtain⟨d,g⟩:=c
    refine⟨_,m (fun j f=>?_),cY _ _,g⟩
    rcases d with e|⟨b,i,d⟩
    ·rw[e]at f;cases f
    ·cases i;exact d j f
 ·exact c.elim
theorem gd(z:Array Value)(n:Nat):(Builtin.zeroCells z n).toList=cq n z.toList:=by
 have key:∀n,(List.range (n*z.size)).map (fun i=>z[i%z.size]!)=(dU n z.toList).flatten:=by
  intro n;induction n with
  |zero=>simp
  |succ n ih=>
   rw[Nat.succ_mul,List.range_add,List.map_append,ih,List.replicate_succ',List.flatten_append];congr 1
   simp only[jc,List.flatten_cons,List.flatten_nil,List.append_nil];apply List.ext_getElem
   ·simp
   ·intro i a c
    simp only[List.length_map,List.length_range]at a;simp[Nat.mod_eq_of_lt a,a,Nat.add_mod]
 simpa[Builtin.zeroCells,cq]using key n
theorem ct{t e:TypeId}(h:pP P t=some e):P.underlying t=some (.slice e):=by
 unfold pP at h;split at h
 ·rename_i e' hu;simp only[bv.injEq]at h;subst h;exact hu
 ·cases h
theorem Dn{z:Value}{n:Nat}:((Array.range (n*z.cells.size)).map (z.cells[· %z.cells.size]!))=(cq n z.cells.toList).toArray:=by
 have:=gd z.cells n;unfold Builtin.zeroCells at this;apply bX;rw[this]
theorem uZ{t e:TypeId}{n:Nat}{ps:Array (Nat×Value)}{z cs:List Value}(o:pP P t=some e)(p:lX P e=some z)(x:n*bi P e≤16777216)(j:z.length=bi P e)
  (q:vI (fun i=>some (i*bi P e,bi P e)) (cq n z) ps.toList=some cs)(w:World):
  (Instr.buildSlice t n ps).run P w=.ok (.slice (some (aZ w.heap)) n n) (gB w (hnew w.heap cs e)):=by
 obtain⟨v,k,d⟩:=gA p;obtain⟨i,hi,u⟩:=mz k;have s:(sizeOf e).run P w=.ok (bi P e) w:=by simp[sizeOf,bR hi,bi,hi]
 have g:v.cells.size=bi P e:=by rw[←j,←d];simp
 have m:=nH _ _ _ q;have a:((Array.range (n*bi P e)).map (fun i=>(if n*bi P e=0 then #[]else v.cells)[i%(if n*bi P e=0 then #[]else v.cells).size]!))=(cq n z).toArray:=by
  by_cases c:n*bi P e=0
  ·have:(cq n z).length=0:=by simp[cq,j,c]
   rw[bV.1 this];simp[c]
  ·simp only[if_neg c]
   rw[←g,Dn,d]
 have f:¬(n*bi P e>2^24):=by omega
 simp only[Instr.buildSlice,Sem.run_bind,ai (ct o),Result.andThen_ok,s,if_neg f];by_cases c:n*bi P e=0
 ·simp only[if_pos c]at a
  simp only[if_pos c,Sem.run_bind,Sem.run_pure,Result.andThen_ok,a,m,gI]
 ·simp only[if_neg c]at a
  simp only[if_neg c,Sem.run_bind,Sem.run_pure,Result.andThen_ok,cZ k,a,m,gI]
theorem Ef{h:ac}{a:Addr}{vs:List Value}(d:Row h a vs):∀j v,vs[j]? =some v→bc h (a.add j)=some v:=fun j v c=>by
 rw[←oE];exact d j v c
theorem qV{size n cap len:Nat}{b:Option Addr}{vs:List Value}{w:World}(d:SRow w.heap b (n*size) vs):(Builtin.firstCells size n (.slice b len cap)).run P w=.ok vs.toArray w:=by
 obtain⟨e,a⟩:=d;cases b with
 |none=>
  rcases a with rfl|⟨_,h,_⟩
  ·simp[Builtin.firstCells]
  ·cases h
 |some b=>
  refine run_firstCells_some w size n b len cap vs e fun j v c=>?_
  rcases a with rfl|⟨_,h,a⟩
  ·cases c
  ·cases h;exact Ef a j v c
theorem xg{a:Addr}{m:Nat}{xs:List Value}{w:World}(e:bq xs=true)(c:qH w.heap (some a) m xs):
  (storeCells (a.add m) xs).run P w=.ok () (gB w (jd w.heap a m xs)):=by
 rcases c with rfl|⟨b,d,c⟩
 ·rfl
 ·cases d
  have:=mK (P:=P) (a:=adr a m) xs 0 w e fun j f=>by rw[tL,aw];exact c j f
  rw[←oE,this,zg,eG]
set_option maxHeartbeats 1000000 in
theorem xZ{t e u ty:TypeId}{b:Option Addr}{sl f d:Nat}{xs:List Value}{x:Value}{K:WK}{w:World}(G:pP P t=some e)(k:(∃s,P.underlying u=some (.slice s))∨P.underlying u=some .string)
  (g:∀w,(Builtin.lenOf x).run P w=.ok d w)(hx:∀w':World,w'.heap=w.heap→(Builtin.firstCells (bi P e) d x).run P w'=.ok xs.toArray w')
  (hi:∃i,P.info? e=some i)
  (h:Gt P e b sl f d xs K w.heap):Wv P (Builtin.append_ #[t,u] ty #[.slice b sl f,x]) K w:=by
 obtain⟨i,hi⟩:=hi;have j:bi P e=i.size:=by simp[bi,hi]
 have A:l6 P e=i.bytes:=by simp[l6,hi]
 by_cases hc:sl+d≤f
 ·obtain⟨O,I,D⟩:=h.1 hc
  refine⟨_,_,?_,cY w (dy w.heap b (sl*bi P e) xs),D⟩;cases b with
  |none=>
   have c:=hx w rfl;rw[j]at c;rcases k with⟨s,hd⟩|hd<;>(simp[Builtin.append_,ai (ct G),ai hd,sizeOf,bR hi,g,hc,c];rfl)
  |some a=>
   have m:=xg (P:=P) I O;have c:=hx w rfl;rw[j]at m c;rcases k with⟨s,hd⟩|hd<;>(simp[Builtin.append_,ai (ct G),ai hd,sizeOf,bR hi,g,hc,c,m,dy,j])
 ·obtain⟨old,z,L,J,E,F,D⟩:=h.2 (by omega)
  obtain⟨v,H,B⟩:=gA J;obtain⟨Q,n,N⟩:=mz H;rw[hi]at n;cases n;rw[A]at E F;have p:¬i.bytes=0:=by omega
  have o:¬(281474976710656<Builtin.nextslicecap (sl+d) f*i.bytes):=by omega
  have c:=hx w.drew rfl;have q:(Builtin.firstCells (bi P e) sl (.slice b sl f)).run P w.drew=.ok old.toArray w.drew:=qV L;rw[j]at c q;have y:sl+d≤(Question.appendCap (sl+d) f e).cut (w.tape w.drawn (.appendCap (sl+d) f e)):=lj _ _;refine⟨_,gB w.drew (hnew w.heap (old++xs++cq ((Question.appendCap (sl+d) f e).cut (w.tape w.drawn (.appendCap (sl+d) f e))-(sl+d)) z) e),?_,⟨rfl,rfl,rfl⟩,D _ y⟩
  have C:(Builtin.zeroCells v.cells ((Question.appendCap (sl+d) f e).cut (w.tape w.drawn (.appendCap (sl+d) f e))-(sl+d)))=(cq ((Question.appendCap (sl+d) f e).cut (w.tape w.drawn (.appendCap (sl+d) f e))-(sl+d)) z).toArray:=by
   apply bX;rw[gd,B]
  rcases k with⟨s,hd⟩|hd<;>(simp[Builtin.append_,ai (ct G),ai hd,sizeOf,bR hi,g,hc,p,o,Question.forced,c,q,cZ H,gI,C,aZ];rfl)
theorem xD{t:TypeId}{K:Prop}(h:FR P t K):∃i,P.info? t=some i:=by
 unfold FR at h;cases hi:P.info? t with
 |none=>rw[hi]at h;exact h.elim
 |some i=>exact⟨i,rfl⟩
theorem tq{t:TypeId}(h:bi P t≠0):∃i,P.info? t=some i:=by
 cases hi:P.info? t with
 |none=>exact absurd (by simp[bi,hi]) h
 |some i=>exact⟨i,rfl⟩
theorem vL{size n:Nat}{x:ByteArray}{w:World}:(Builtin.firstCells size n (.string x)).run P w=.ok ((cg x).take n).toArray w:=by
 simp only[Builtin.firstCells,Sem.run_pure];congr 1
 apply bX;simp[cg,kF,ec,←List.map_take]
theorem rE{t u ty:TypeId}{s x:Value}{K:WK}{w:World}(c:(∃e',P.underlying u=some (.slice e'))∨P.underlying u=some .string)(h:wB P t s x K w.heap):
  Wv P (Builtin.append_ #[t,u] ty #[s,x]) K w:=by
 unfold wB at h;split at h
 ·rename_i e b sl sc a xl xc ht
  have hi:=xD h;obtain⟨⟨xs,d,g⟩,k⟩:=kT h;exact xZ ht c (fun w=>rfl) (fun f i=>qV (by rw[i];exact d)) hi g
 ·rename_i e b sl sc x ht
  cases hb:aV (bi P e) 1 with
  |false=>rw[hb]at h;exact h.elim
  |true=>
   rw[hb]at h;have m:=az hb;have j:(cg x).length=x.size:=by simp[cg]
   refine xZ ht c (fun w=>rfl) (fun f _=>?_) (tq (by omega)) h
   rw[vL,be (by omega)]
 ·exact h.elim
theorem ux{n:Int}(c:0≤n)(a:n≤9223372036854775807):IntKind.i64.wrap n=n:=IntWalk.i64_in n ⟨by omega,a⟩
theorem C7{t e u ty:TypeId}{b:Option Addr}{sl f:Nat}{k0 k:IntKind}{l:Int}{z:List Value}{K:WK}{w:World}(x:pP P t=some e)(y:P.underlying u=some (.int k0))
  (U:lX P e=some z)(O:z.length=bi P e)(W:0≤l)(N:l*l6 P e≤2^48)(Z:l≤9223372036854775807)(h3:((sl+l.toNat:Nat):Int)≤9223372036854775807)
  (h:Gt P e b sl f l.toNat (cq l.toNat z) K w.heap):Wv P (Builtin.append_ #[t,u] ty #[.slice b sl f,.int k l]) K w:=by
 obtain⟨v,F,C⟩:=gA U;obtain⟨i,hi,Y⟩:=mz F;have j:bi P e=i.size:=by simp[bi,hi]
 have B:l6 P e=i.bytes:=by simp[l6,hi]
 have A:IntKind.wrap .i64 l=l:=ux W Z;have c:¬l<0:=by omega
 rw[B]at N;have d:¬(281474976710656:Int)<l*i.bytes:=by omega
 have g:∀R:World,(asInt (.int k l)).run P R=.ok l R:=fun R=>rfl
 have G:(Builtin.zeroCells v.cells l.toNat)=(cq l.toNat z).toArray:=by apply bX;rw[gd,C]
 have q:l.toNat*i.size=0→cq l.toNat z= []:=fun L=>by
  have D:(cq l.toNat z).length=l.toNat*i.size:=by rw[←j,←O];unfold cq;simp
  exact bV.1 (by rw[D,L])
 by_cases hc:sl+l.toNat≤f
 ·obtain⟨Q,N,I⟩:=h.1 hc
  refine⟨_,_,?_,cY w (dy w.heap b (sl*bi P e) (cq l.toNat z)),I⟩;cases b with
  |none=>
   by_cases m:l.toNat*i.size=0
   ·simp[Builtin.append_,ai (ct x),ai y,sizeOf,bR hi,g,A,c,d,hc,m];rfl
   ·simp[Builtin.append_,ai (ct x),ai y,sizeOf,bR hi,g,A,c,d,hc,cZ F];rfl
  |some a=>
   have n:=xg (P:=P) N Q;rw[j]at n;by_cases m:l.toNat*i.size=0
   ·rw[q m]at n
    simp[Builtin.append_,ai (ct x),ai y,sizeOf,bR hi,g,A,c,d,hc,n,dy,j,m,q m]
   ·simp[Builtin.append_,ai (ct x),ai y,sizeOf,bR hi,g,A,c,d,hc,n,dy,j,m,cZ F,G]
 ·obtain⟨old,z',X,H,S,T,I⟩:=h.2 (by omega)
  rw[U]at H;cases H;rw[B]at S T;have V:¬i.bytes=0:=by omega
  have p:¬(281474976710656<Builtin.nextslicecap (sl+l.toNat) f*i.bytes):=by omega
  have h3':¬(9223372036854775807:Int)<((sl:Int)+(l.toNat:Int)):=by omega
  have o:¬(9223372036854775807:Int)<((sl:Int)+max l 0):=by omega
  have s:(Builtin.firstCells (bi P e) sl (.slice b sl f)).run P w.drew=.ok old.toArray w.drew:=qV X;rw[j]at s;have J:sl+l.toNat≤(Question.appendCap (sl+l.toNat) f e).cut (w.tape w.drawn (.appendCap (sl+l.toNat) f e)):=lj _ _;refine⟨_,gB w.drew (hnew w.heap (old++cq l.toNat z++cq ((Question.appendCap (sl+l.toNat) f e).cut (w.tape w.drawn (.appendCap (sl+l.toNat) f e))-(sl+l.toNat)) z) e),?_,⟨rfl,rfl,rfl⟩,I _ J⟩
  have E:(Builtin.zeroCells v.cells ((Question.appendCap (sl+l.toNat) f e).cut (w.tape w.drawn (.appendCap (sl+l.toNat) f e))-(sl+l.toNat)))=(cq ((Question.appendCap (sl+l.toNat) f e).cut (w.tape w.drawn (.appendCap (sl+l.toNat) f e))-(sl+l.toNat)) z).toArray:=by
   apply bX;rw[gd,C]
  by_cases m:l.toNat*i.size=0
  ·rw[q m]at I⊢
   simp[Builtin.append_,ai (ct x),ai y,sizeOf,bR hi,g,A,c,d,hc,o,p,Question.forced,s,cZ F,gI,E,aZ,m];rfl
  ·simp[Builtin.append_,ai (ct x),ai y,sizeOf,bR hi,g,A,c,d,hc,o,p,Question.forced,s,cZ F,gI,E,aZ,m,G];rfl
theorem wW{t u ty:TypeId}{k0:IntKind}{s x:Value}{K:WK}{w:World}(g:P.underlying u=some (.int k0))(h:wX P t s x K w.heap):
  Wv P (Builtin.append_ #[t,u] ty #[s,x]) K w:=by
 unfold wX at h;split at h
 ·rename_i e b sl sc k l ht
  split at h
  ·rename_i z hz
   cases hb:aV z.length (bi P e)with
   |false=>rw[hb]at h;exact h.elim
   |true=>
    rw[hb]at h;obtain⟨⟨a,i,f,c⟩,d⟩:=h;exact C7 ht g hz (az hb) a i f c d
  ·exact h.elim
 ·exact h.elim
theorem iM:∀{a b:List Value},bq a=true→bq b=true→bq (a++b)=true
 | [],_,_,h=>h
 |v::a,b,h,k=>by
  simp only[bq,cR,aO]at h⊢;exact⟨h.1,iM h.2 k⟩
theorem tc{z:List Value}(h:bq z=true):∀n,bq (cq n z)=true
 |0=>rfl
 |n+1=>by
  have:cq (n+1) z=z++cq n z:=by simp[cq,List.replicate_succ]
  rw[this];exact iM h (tc h n)
theorem zA{t ty:TypeId}{x:Value}{K:WK}{w:World}(h:B5 P t x K w.heap):Wv P (Builtin.clear_ #[t] ty #[x]) K w:=by
 unfold B5 at h;split at h
 ·rename_i e a n c ht
  split at h
  ·rename_i z hz
   obtain⟨v,i,f⟩:=gA hz;cases ho:bq z with
   |false=>rw[ho]at h;exact h.elim
   |true=>
    rw[ho]at h;obtain⟨k,j⟩:=h;refine⟨_,_,?_,cY w (dy w.heap a 0 (cq n z)),j⟩;cases a with
    |none=>simp[Builtin.clear_,ai (ct ht)];rfl
    |some a=>
     cases n with
     |zero=>simp[Builtin.clear_,ai (ct ht)];rfl
     |succ n=>
      have d:=xg (P:=P) (tc ho (n+1)) k;rw[←oE,x7]at d;have g:(Builtin.zeroCells v.cells (n+1)).toList=cq (n+1) z:=by rw[gd,f]
      simp[Builtin.clear_,ai (ct ht),cZ i,g,d,dy]
  ·exact h.elim
 ·exact h.elim
theorem td:∀(xs:List Value) (n:Nat),bq xs=true→bq (xs.take n)=true
 | [],n,_=>by simp[bq]
 |x::xs,0,_=>by simp[bq]
 |x::xs,n+1,h=>by
  simp only[bq,aO,List.take_succ_cons]at h⊢;exact⟨h.1,td xs n h.2⟩
theorem yv(x:ByteArray):bq (cg x)=true:=by
 have:∀l:List UInt8,bq (l.map fun b=>.int .u8 (b.toNat:Int))=true:=by
  intro l;induction l with
  |nil=>rfl
  |cons b l ih=>simp[bq,ih]
 exact this _
theorem AN{t u ty:TypeId}{d s:Value}{K:WK}{w:World}(h:Fe P t d s K w.heap):Wv P (Builtin.copy_ #[t,u] ty #[d,s]) K w:=by
 unfold Fe at h;split at h
 ·rename_i e b dl dc a sl sc ht
  obtain⟨⟨xs,k,o,p,n⟩,g⟩:=kT h;refine⟨_,_,?_,cY w (dy w.heap b 0 xs),n⟩;have j:=qV (P:=P) (len:=sl) (cap:=sc) k;cases b with
  |none=>simp[Builtin.copy_,ai (ct ht),Builtin.lenOf,g,j,goInt];rfl
  |some c=>
   have f:=xg (P:=P) (m:=0) p o;simp only[Addr.add,if_pos]at f;simp[Builtin.copy_,ai (ct ht),Builtin.lenOf,g,j,goInt,f,dy]
 ·rename_i e b dl dc x ht
  cases hb:aV (bi P e) 1 with
  |false=>rw[hb]at h;exact h.elim
  |true=>
   rw[hb]at h;have p:=az hb;obtain⟨i,hi⟩:=tq (P:=P) (t:=e) (by omega);have g:(sizeOf e).run P w=.ok (bi P e) w:=by simp[sizeOf,bR hi,bi,hi]
   obtain⟨o,n⟩:=h;have v:(cg x).length=x.size:=by simp[cg]
   have q:(cg x).take (cE x.size dl)=(cg x).take dl:=by
    by_cases hx:x.size≤dl
    ·rw[show cE x.size dl=x.size from Nat.min_eq_left hx,be (by omega),be (by omega)]
    ·rw[show cE x.size dl=dl from Nat.min_eq_right (by omega)]
   have j:(Builtin.firstCells (bi P e) (cE x.size dl) (.string x)).run P w=.ok ((cg x).take dl).toArray w:=by
    rw[vL,q]
   refine⟨_,_,?_,cY w (dy w.heap b 0 ((cg x).take dl)),n⟩;cases b with
   |none=>simp[Builtin.copy_,ai (ct ht),Builtin.lenOf,g,j,goInt];rfl
   |some c=>
    have f:=xg (P:=P) (m:=0) (td _ dl (yv x)) o;simp only[Addr.add,if_pos]at f;simp[Builtin.copy_,ai (ct ht),Builtin.lenOf,g,j,goInt,f,dy]
 ·exact h.elim
theorem DD(k v:Value)(a:Nat):∀(es:List MapEntry),(match es.findIdx? (fun e=>dR k e.key)with
  |some i=>(es.modify i (fun e=>{e with key:=k,val:=v}),a)
  |none=>(es++ [{key:=k,val:=v,born:=a}],a+1))=zT k v a es
 | []=>rfl
 |e::es=>by
  have c:=DD k v a es;simp only[zT,List.findIdx?_cons];cases hk:dR k e.key with
  |true=>simp[List.modify]
  |false=>
   simp only[cB,if_false];rw[←c];cases hf:es.findIdx? (fun e=>dR k e.key)with
   |none=>simp
   |some i=>simp[List.modify]
theorem qx{d:TypeDesc}{c:CK}(hd:kq d c)(x:c.den):∀(es:List MapEntry) (i:Nat),keysOf c es→
  Instr.findNow d (c.enc x) es i=some (match es.findIdx? (fun e=>dR (c.enc x) e.key)with
   |some j=>(es[j]?).map fun e=>(i+j,e.val)
   |none=>none)
 | [],i,_=>rfl
 |e::es,i,h=>by
  obtain⟨y,m⟩:=h e (by simp);have f:=vz hd x y;rw[←m]at f;have k:=qx hd x es (i+1) fun g a=>h g (by simp[a])
  simp only[Instr.findNow,List.findIdx?_cons,f];cases hb:dR (c.enc x) e.key with
  |true=>simp
  |false=>
   simp only[cB,if_false];rw[k];cases hf:es.findIdx? (fun e=>dR (c.enc x) e.key)with
   |none=>simp
   |some j=>simp[Nat.add_assoc,Nat.add_comm 1 j]
theorem pQ{a b:ByteArray}(h:(a==b)=true):a=b:=by
 cases a with|mk a=>cases b with|mk b=>
 have h:(a==b)=true:=h;rw[eq_of_beq h]
theorem qG(a:ByteArray):(a==a)=true:=by
 cases a with|mk a=>
 exact beq_self_eq_true a
theorem zL{d:TypeDesc}{c:CK}(hd:kq d c)(x y:c.den)(h:dR (c.enc x) (c.enc y)=true):Instr.sameBits 10000 (c.enc y) (c.enc x)=true:=by
 rcases hd with⟨i,rfl,rfl⟩|⟨rfl,rfl⟩|⟨rfl,rfl⟩
 ·have h:x=y:=eq_of_beq (α:=Int) h
  subst h;have:∀n:Int,(i==i&&n==n)=true:=fun n=>by simp
  exact this x
 ·have h:x=y:=pQ h
  subst h;exact qG x
 ·have h:x=y:=eq_of_beq (α:=Bool) h
  subst h;exact beq_self_eq_true (α:=Bool) x
theorem pt{w:World}{r:Nat}{es:Array MapEntry}{a:Nat}{o:Obj}(h:w.heap[r]? =some (.map es a)):(setObj r o).run P w=.ok () (gB w (w.heap.setIfInBounds r o)):=by
 simp only[setObj,Sem.run,h];rfl
theorem CB{t k e:TypeId}{d:TypeDesc}{c:CK}(A:P.underlying t=some (.map k e))(u:P.underlying k=some d)(hd:kq d c){r:Nat}{x:c.den}{v:Value}{w:World}(hm:pT c w.heap r):
  (Instr.mapUpdate t (.map (some r)) (c.enc x) v).run P w=.ok () (gB w (jh w.heap r (c.enc x) v)):=by
 obtain⟨es,a,m,g⟩:=hm;obtain⟨q,B,f,D⟩:=pw (P:=P) hd u x g w;rw[qx hd x es.toList 0 g]at f;have j:=DD (c.enc x) v a es.toList;have p:jh w.heap r (c.enc x) v=w.heap.setIfInBounds r (.map (zT (c.enc x) v a es.toList).1.toArray (zT (c.enc x) v a es.toList).2):=by
  simp only[jh,m]
 rw[p,←j];simp only[Instr.mapUpdate,Sem.run_bind,ai A,Result.andThen_ok,ik m,jv hd u,B];cases hf:es.toList.findIdx? (fun e=>dR (c.enc x) e.key)with
 |none=>
  rw[hf]at f;simp only[bv.injEq]at f;subst f;simp only[pt m];congr 4
  apply bX;simp
 |some i=>
  rw[hf]at f;simp only[bv.injEq]at f;obtain⟨hi,z,_⟩:=List.findIdx?_eq_some_iff_getElem.1 hf;have s:es.toList[i]? =some es.toList[i]:=au hi;rw[s]at f;simp only[gZ,aw]at f;subst f;have n:es[i]? =some es.toList[i]:=by rw[←aJ];exact s
  obtain⟨y,C⟩:=g es.toList[i] (List.getElem_mem hi);have o:Instr.sameBits 10000 (es.toList[i]).key (c.enc x)=true:=by
   rw[C]at z⊢;exact zL hd x y z
  simp only[n,gZ,Option.getD_some,Instr.keyThatStays,o,if_true,Sem.run_bind,Sem.run_pure,Result.andThen_ok,pt m];congr 4
  apply bX;simp
theorem rD{t:TypeId}{m k v:Value}{K:WK}{w:World}(h:wA P t m k v K w.heap):Wu P (Instr.mapUpdate t m k v) K w:=by
 unfold wA at h;split at h
 ·rename_i c e m hc
  obtain⟨j,d,f,a,hd⟩:=qt hc;obtain⟨i,rfl,r,rfl,hm,g⟩:=CK.dec_sound h;exact⟨_,CB f a hd hm,cY _ _,g⟩
 ·exact h.elim
theorem BG(k:Value):∀(es:List MapEntry),(match es.findIdx? (fun e=>dR k e.key)with
  |some i=>es.eraseIdx i
  |none=>es)=xP k es
 | []=>rfl
 |e::es=>by
  have a:=BG k es;simp only[xP,List.findIdx?_cons];cases hk:dR k e.key with
  |true=>simp
  |false=>
   simp only[cB,if_false];rw[←a];cases hf:es.findIdx? (fun e=>dR k e.key)<;>simp
theorem Bq{t k e ty:TypeId}{ts:Array TypeId}{d:TypeDesc}{c:CK}(u:ts[0]? =some t) (y:P.underlying t=some (.map k e)) (s:P.underlying k=some d) (hd:kq d c) {r:Nat} {x:c.den} {w:World} (hm:pT c w.heap r):
  (Builtin.delete_ ts ty #[.map (some r),c.enc x]).run P w=.ok (.tuple #[]) (gB w (xz w.heap r (c.enc x))):=by
 obtain⟨es,g,n,m⟩:=hm;obtain⟨q,z,f,A⟩:=pw (P:=P) hd s x m w;rw[qx hd x es.toList 0 m]at f;have j:=BG (c.enc x) es.toList;have p:xz w.heap r (c.enc x)=w.heap.setIfInBounds r (.map (xP (c.enc x) es.toList).toArray g):=by
  simp only[xz,n]
 rw[p,←j];simp only[Builtin.delete_,u,List.getElem?_toArray,List.getElem?_cons_zero,List.getElem?_cons_succ,Sem.run_bind,ai y,Result.andThen_ok,ik n,jv hd s,z];cases hf:es.toList.findIdx? (fun e=>dR (c.enc x) e.key)with
 |none=>
  rw[hf]at f;simp only[bv.injEq]at f;subst f;simp[pt n]
 |some i=>
  rw[hf]at f;simp only[bv.injEq]at f;obtain⟨hi,B,_⟩:=List.findIdx?_eq_some_iff_getElem.1 hf;have v:es.toList[i]? =some es.toList[i]:=au hi;rw[v]at f;simp only[gZ,aw]at f;subst f;have o:i<es.size:=by simpa using hi
  have a:es.eraseIdxIfInBounds i=(es.toList.eraseIdx i).toArray:=by
   apply bX;simp[Array.eraseIdxIfInBounds,o]
  simp[pt n,a]
theorem wU{t ty:TypeId}{ts:Array TypeId}{m k:Value}{K:WK}{w:World}(f:ts[0]? =some t) (h:wV P t m k K w.heap):Wv P (Builtin.delete_ ts ty #[m,k]) K w:=by
 unfold wV at h;split at h
 ·rename_i c e m hc
  obtain⟨n,d,i,g,hd⟩:=qt hc;obtain⟨j,rfl,h⟩:=CK.dec_sound h;rcases h with⟨rfl,a⟩|⟨r,rfl,hm,a⟩
  ·refine⟨_,w,?_,Tame.refl w,a⟩
   simp[Builtin.delete_,f,ai i,jv hd g]
  ·exact⟨_,_,Bq f i g hd hm,cY _ _,a⟩
 ·exact h.elim
theorem Eh{t k e:TypeId}(c:P.underlying t=some (.map k e)){m:Option Nat}{a:Nat}{w:World}(hm:m=none∧a=0∨∃r es,m=some r∧w.heap[r]? =some (.map es a)):
  (Instr.range t (.map m)).run P w=.ok (.pointer (some (aZ w.heap))) (gB w (w.heap.push (.mapIter m a #[] a))):=by
 rcases hm with⟨rfl,rfl⟩|⟨r,es,rfl,d⟩
 ·simp only[Instr.range,Sem.run_bind,ai c,Result.andThen_ok,Sem.run_pure,xo,aZ]
 ·simp only[Instr.range,Sem.run_bind,ai c,Result.andThen_ok,Sem.run_pure,ik d,xo,aZ]
theorem qk{w:World}{i:Nat}{m:Option Nat}{a:Nat}{c:Array Nat}{last:Nat}(h:w.heap[i]? =some (.mapIter m a c last)):(getObj i).run P w=.ok (.mapIter m a c last) w:=by
 simp only[getObj,Sem.run,h]
theorem A4{w:World}{i:Nat}{m:Option Nat}{a:Nat}{c:Array Nat}{last:Nat}{o:Obj}(h:w.heap[i]? =some (.mapIter m a c last)):(setObj i o).run P w=.ok () (gB w (w.heap.setIfInBounds i o)):=by
 simp only[setObj,Sem.run,h];rfl
theorem xV(n:Nat)(a:0<n)(w:World):∃k w',k<n∧(choose (.mapNext n)).run P w=.ok k w'∧Tame w w'∧w'.heap=w.heap:=by
 unfold choose;simp only[Sem.run];by_cases h:(Question.mapNext n).forced=true
 ·exact⟨0,w,a,by rw[if_pos h],Tame.refl w,rfl⟩
 ·refine⟨(Question.mapNext n).cut (w.tape w.drawn (.mapNext n)),{w with drawn:=w.drawn+1},Nat.mod_lt _ a,by rw[if_neg h],⟨rfl,rfl,rfl⟩,rfl⟩
theorem AM{L:Value}{t:TypeId}{K:WK}{w:World}(h:Fc L K w.heap):Wv P (Instr.next L false t) K w:=by
 unfold Fc at h;split at h
 ·rename_i a
  obtain⟨I,m,i,f,last,hi,h⟩:=h;obtain⟨b,off,O⟩:=a;simp only at I hi h;subst I;rcases h with⟨rfl,Q⟩|⟨r,es,v,rfl,J,C,B,G⟩
  ·exact⟨_,w,by simp only[Instr.next,Sem.run_bind,qk hi,Result.andThen_ok,Sem.run_pure],Tame.refl w,Q⟩
  ·have s:(!f.isEmpty&& !es.isEmpty&&es.all (fun e=>decide (e.born≥last)))=false:=by
    rcases C with h|h|h<;>simp[h]
   obtain⟨left,j⟩:∃left,left=es.filter fun e=> !f.contains e.born:=⟨_,rfl⟩
   obtain⟨old,p⟩:∃old,old=left.filter (·.born<i):=⟨_,rfl⟩
   obtain⟨new,hnew⟩:∃new,new=left.filter (·.born≥i):=⟨_,rfl⟩
   obtain⟨d,g⟩:∃d:Array (Option MapEntry),d=(if old.isEmpty then #[none]else #[])++(old++new).map some:=⟨_,rfl⟩
   have z:0<d.size:=by
    rw[g];by_cases y:old.isEmpty=true
    ·simp[y];omega
    ·have:old.size≠0:=by simpa using y
     simp[y];omega
   obtain⟨k,D,R,u,N,H⟩:=xV (P:=P) d.size z w;obtain⟨c,hc⟩:∃c,d[k]? =some c:=⟨d[k],Array.getElem?_eq_getElem R⟩;have E:D.heap[b]? =some (.mapIter (some r) i f last):=by rw[H];exact hi
   have n:(!f.isEmpty&& !es.isEmpty&&es.all fun x=>decide (x.born≥last))=false:=s
   cases c with
   |none=>
    refine⟨.tuple #[.bool false],D,?_,N,?_⟩
    ·simp only[Instr.next,Sem.run_bind,qk hi,Result.andThen_ok,Sem.run_pure,ik J,n,cB,if_false,←j,←p,←hnew,←g,u,hc]
    ·rw[H]
     have q:old.isEmpty=true:=by
      have hm:none∈d:=Array.mem_of_getElem? hc;rw[g]at hm;by_cases y:old.isEmpty=true
      ·exact y
      ·simp[y]at hm
     refine B fun e S F=>?_
     cases hs:f.contains e.born with
     |true=>rfl
     |false=>
      have o:e∈old:=by
       rw[p,j];simp only[lp];exact⟨⟨by simpa using S,by rw[hs];rfl⟩,by simpa using F⟩
      rw[Array.isEmpty_iff]at q;rw[q]at o;simp at o
   |some e=>
    have o:e∈es∧f.contains e.born=false:=by
     have hm:some e∈d:=Array.mem_of_getElem? hc;have A:e∈left:=by
      rw[g]at hm;rw[Array.mem_append]at hm;rcases hm with hm|hm
      ·split at hm<;>simp at hm
      ·simp only[Array.mem_map,bv.injEq,exists_eq_right,Array.mem_append]at hm
       rcases hm with hm|hm
       ·rw[p]at hm;exact(lp.1 hm).1
       ·rw[hnew]at hm;exact(lp.1 hm).1
     rw[j]at A;have:=lp.1 A;exact⟨this.1,by simpa using this.2⟩
    refine⟨.tuple #[.bool true,e.key,e.val],gB D (D.heap.setIfInBounds b (.mapIter (some r) i (f.push e.born) v)),?_,N.trans (cY _ _),?_⟩
    ·simp only[Instr.next,Sem.run_bind,qk hi,Result.andThen_ok,Sem.run_pure,ik J,n,cB,if_false,←j,←p,←hnew,←g,u,hc,A4 E]
    ·rw[H]
     exact G e (by simpa using o.1) o.2
 ·exact h.elim
theorem yw{t e:TypeId}{z:List Value}{k k':IntKind}{l c:Int}{w:World}(y:pP P t=some e)(C:lX P e=some z)(f:z.length=bi P e)(B:0≤l)(G:l≤c)(F:c≤9223372036854775807)(E:l6 P e*c≤2^48):
  (Instr.makeSlice t (.int k l) (.int k' c)).run P w=.ok (.slice (some (aZ w.heap)) l.toNat c.toNat) (gB w (hnew w.heap (cq c.toNat z) e)):=by
 obtain⟨v,u,d⟩:=gA C;obtain⟨i,hi,D⟩:=mz u;have g:bi P e=i.size:=by simp[bi,hi]
 have n:l6 P e=i.bytes:=by simp[l6,hi]
 have o:v.cells.size=i.size:=by rw[←g,←f,←d];simp
 have q:=ux B (by omega);have hc:=ux (show 0≤c by omega) F
 rw[n]at E;have c1:¬(c<0):=by omega
 have s:¬(281474976710656<(i.bytes:Int)*c):=by omega
 have x:¬(l<0):=by omega
 have A:¬(c<l):=by omega
 by_cases a:c.toNat*i.size=0
 ·have p:(cq c.toNat z).length=0:=by simp[cq,f,g,a]
  rw[bV.1 p];simp[Instr.makeSlice,ai (ct y),asInt,asIntOf,bR hi,q,hc,c1,s,x,A,sizeOf,a,gI]
 ·have m:((Array.range (c.toNat*i.size)).map (fun j=>v.cells[j%v.cells.size]!))=(cq c.toNat z).toArray:=by
   rw[←o,Dn,d]
  have key:(newRow e ((Array.range (c.toNat*i.size)).map (fun j=>v.cells[j%v.cells.size]!))).run P w=.ok (aZ w.heap) (gB w (hnew w.heap (cq c.toNat z) e)):=by
   rw[m,gI]
  simp[Instr.makeSlice,ai (ct y),asInt,asIntOf,bR hi,q,hc,c1,s,x,A,sizeOf,a,cZ u];rw[key];rfl
theorem Agree.args{N:Nat}{r:bE}{a:Act}(h:Agree N r a){os:Array Operand}{vs:List Value}(c:jK r os.toList=some vs):os.map a.eval=vs.toArray:=by
 rw[←iJ h c];apply bX;simp
theorem HC.out{f:FuncId}{args:List Value}{ks:List Kind}{K:WK}{w:World}(h:HC P f args ks (fun x h'=>K (wb ks (jl ks x)) h') w.heap):BN P (callFunc f args.toArray) K w:=by
 rcases h.run w rfl with⟨d,i⟩|⟨v,g,d,a,x,rfl,c⟩
 ·refine .inr (.inr (.inl ⟨f,args.toArray,d,i.mono ?_⟩))
  rintro e g ⟨a,x,rfl,c⟩;exact⟨a,_,rfl,c⟩
 ·exact .inl ⟨_,g,d,a,c⟩
theorem EK{d a e:TypeId}{s:ByteArray}{w:World}(m:P.underlying d=some .string)(hd:P.underlying a=some (.slice e))(j:P.underlying e=some (.int .u8)):
  ∃c,s.size≤c∧(convert d a (.string s)).run P w=.ok (.slice (some (aZ w.heap)) s.size c) (gB w.drew (w.heap.push (.cells (cg s++dU (c-s.size) (Value.int .u8 0)).toArray e (c,c+1)))):=by
 have f:s.size≤grownCap w s.size 0 e:=lj _ _;refine⟨_,f,?_⟩;rw[Go.Lib.run_convert_string_bytes w d a e s m hd j];have hc:(Go.Lib.bytesCells w e s).size=grownCap w s.size 0 e:=by
  unfold Go.Lib.bytesCells;rw[Array.size_append,Array.size_map,Array.size_replicate,show s.data.size=s.size from rfl]
  omega
 have g:(cg s++dU (grownCap w s.size 0 e-s.size) (Value.int .u8 0)).toArray=Go.Lib.bytesCells w e s:=by
  unfold Go.Lib.bytesCells cg;apply bX;simp
 rw[g];unfold Go.Lib.bytesWorld World.freeze;rw[if_neg (by omega),hc];unfold World.alloc World.drew gB;congr 1
 congr 1
 apply Array.ext (by simp);intro i n k;rw[Array.getElem_modify];simp only[Array.getElem_push];split
 ·rename_i e
  subst e;simp
 ·rename_i e
  have hi:i<w.heap.size:=by simp at k;omega
  rw[dif_pos hi,dif_pos hi]
theorem uz{o:Oper}{r:bE}{K:WK}{w:World}{N:Nat}{a:Act}(E:Agree N r a)(j:yn P o r K w.heap):BN P (execOp a.eval o) K w:=by
 have q:∀{x:Operand} {v:Value},cf r x=some v→a.eval x=v:=fun h=>gD E h
 obtain⟨R,op,type,pos,G,I⟩:=o;cases op with
 |alloc t=>
  simp only[yn]at j;split at j
  ·rename_i z hz
   obtain⟨v,D,U⟩:=gA hz;have C:(Instr.alloc t true (.tuple #[])).run P w=.ok (.pointer (some (aZ w.heap))) (gB w (hnew w.heap z t)):=by
    simp[Instr.alloc,cZ D,newVar,gI,U]
   exact Wv.out ⟨_,_,C,cY _ _,j⟩
  ·exact j.elim
 |box t x=>
  simp only[yn]at j;split at j
  ·rename_i v D
   have C:(Instr.box t v).run P w=.ok (.pointer (some (aZ w.heap))) (gB w (hnew w.heap v.cells.toList t)):=by
    simp[Instr.box,newVar,gI]
   simp only[execOp,q D];exact Wv.out ⟨_,_,C,cY _ _,j⟩
  ·exact j.elim
 |build t ps=>
  simp only[yn]at j;split at j
  ·rename_i vs p
   split at j
   ·rename_i cs hcs
    have X:(ps.map fun x=>(x.1,a.eval x.2))=vs.toArray:=by
     rw[←j7 E p];apply bX;simp
    have C:=tG (ps:=vs.toArray) (by simpa using hcs) w;simp only[execOp];rw[show(ps.map fun(i,x)=>(i,a.eval x))=vs.toArray from X]
    exact Wv.out ⟨_,w,C,Tame.refl w,j⟩
   ·exact j.elim
  ·exact j.elim
 |buildSlice t n ps=>
  simp only[yn]at j;split at j
  ·rename_i e vs F p
   split at j
   ·rename_i z hz
    cases hb:(Nat.ble (n*bi P e) 16777216&&aV z.length (bi P e))with
    |false=>rw[hb]at j;exact j.elim
    |true=>
     rw[hb]at j;simp only[aO]at hb;simp only[cond_true]at j;split at j
     ·rename_i cs hcs
      have X:(ps.map fun x=>(x.1,a.eval x.2))=vs.toArray:=by
       rw[←j7 E p];apply bX;simp
      have C:=uZ (ps:=vs.toArray) F hz (kN hb.1) (az hb.2) (by simpa using hcs) w;simp only[execOp];rw[show(ps.map fun(i,x)=>(i,a.eval x))=vs.toArray from X]
      exact Wv.out ⟨_,_,C,cY _ _,j⟩
     ·exact j.elim
   ·exact j.elim
  ·exact j.elim
 |store t x y=>
  simp only[yn]at j;split at j
  ·rename_i b v hb D
   simp only[execOp,q hb,q D];exact Wu.out (zz j)
  ·exact j.elim
 |mapUpdate t m k x=>
  simp only[yn]at j;split at j
  ·rename_i mv kv xv hm B hx
   simp only[execOp,q hm,q B,q hx];exact Wu.out (rD j)
  ·exact j.elim
 |insert t m k x=>
  simp only[yn]at j;split at j
  ·rename_i mv kv xv hm B hx
   simp only[execOp,q hm,q B,q hx];exact Wu.out (rD j)
  ·exact j.elim
 |makeMap t n=>
  simp only[yn]at j;cases n with
  |none=>exact Wv.out ⟨_,gB w (w.heap.push (.map #[] 0)),by simp[Instr.makeMap];rfl,cY _ _,j⟩
  |some n=>
   simp only at j;split at j
   ·rename_i k i hn F
    exact Wv.out ⟨_,gB w (w.heap.push (.map #[] 0)),by simp[Instr.makeMap,q hn,ai F,asInt,asIntOf];rfl,cY _ _,j⟩
   ·exact j.elim
 |makeSlice t l c=>
  simp only[yn]at j;split at j
  ·rename_i e k l' k' c' F Q hc
   split at j
   ·rename_i z hz
    cases hb:aV z.length (bi P e)with
    |false=>rw[hb]at j;exact j.elim
    |true=>
     rw[hb]at j;obtain⟨⟨Z,S,Y,h3⟩,j⟩:=j;simp only[execOp,q Q,q hc];exact Wv.out ⟨_,_,yw F hz (az hb) Z S Y h3,cY _ _,j⟩
   ·exact j.elim
  ·exact j.elim
 |convert s d x=>
  simp only[yn]at j;split at j
  ·rename_i e v T hd hx
   cases hu:CJ P e with
   |false=>rw[hu]at j;exact j.elim
   |true=>
    rw[hu]at j;obtain⟨c,hc,L⟩:=EK (w:=w) (s:=v) T hd (xC hu);simp only[execOp,q hx];exact Wv.out ⟨_,_,L,⟨rfl,rfl,rfl⟩,j c hc⟩
  ·exact j.elim
 |range t x=>
  simp only[yn]at j;split at j
  ·rename_i k e m hu hx
   obtain⟨V,hm,j⟩:=j;simp only[execOp,q hx];exact Wv.out ⟨_,_,Eh hu hm,cY _ _,j⟩
  ·exact j.elim
 |next it isS=>
  cases isS with
  |true=>simp only[yn]at j
  |false=>
   simp only[yn]at j;split at j
   ·rename_i v D
    simp only[execOp,q D];exact Wv.out (AM j)
   ·exact j.elim
 |call c=>
  simp only[yn]at j;have O:∀{b:Builtin} {vs:List Value},c.callee=.builtin b→jK r c.args.toList=some vs→∃cs:Array Bool,∀w,(execOp a.eval ⟨R,.call c,type,pos,G,I⟩).run P w=
    (builtin b c.argTypes type cs vs.toArray).run P w:=by
   intro b vs hc p;refine⟨c.args.map fun| .const _=>true|_=>false,fun w=>?_⟩
   simp[execOp,resolve,hc,E.args p,invoke];rfl
  have J:∀{s s':Sem Next},(∀w,s.run P w=s'.run P w)→BN P s' K w→BN P s K w:=by
   intro s s' C h;unfold BN at h⊢;simp only[C];exact h
  split at j
  ·rename_i s x hc p
   split at j
   ·rename_i t u hat
    obtain⟨cs,H⟩:=O hc p;refine J H ?_;have A:c.argTypes= #[t,u]:=by apply bX;rw[hat]
    simp only[builtin,A];split at j
    ·rename_i e' hu;exact Wv.out (rE (.inl ⟨e',hu⟩) j)
    ·rename_i hu;exact Wv.out (rE (.inr hu) j)
    ·rename_i k0 hu;exact Wv.out (wW hu j)
    ·exact j.elim
   ·exact j.elim
  ·rename_i x hc p
   split at j
   ·rename_i t hat
    obtain⟨cs,H⟩:=O hc p;refine J H ?_;have A:c.argTypes= #[t]:=by apply bX;rw[hat]
    simp only[builtin,A];exact Wv.out (zA j)
   ·exact j.elim
  ·rename_i s x hc p
   split at j
   ·rename_i t u hat
    obtain⟨cs,H⟩:=O hc p;refine J H ?_;have A:c.argTypes= #[t,u]:=by apply bX;rw[hat]
    simp only[builtin,A];exact Wv.out (AN j)
   ·exact j.elim
  ·rename_i m k hc p
   split at j
   ·rename_i t u hat
    obtain⟨cs,H⟩:=O hc p;refine J H ?_;simp only[builtin];exact Wv.out (wU (by rw[←aJ,hat];rfl) j)
   ·exact j.elim
  ·rename_i f args hc p
   unfold HN at j;split at j
   ·exact j.elim
   ·rename_i ks hks
    split at j
    ·rename_i f
     refine J (s':=callFunc f args.toArray) (fun w=>?_) j.out
     simp[execOp,resolve,hc,E.args p,Act.eval,Deferred.ofValue,invoke]
    ·rename_i f hf
     split at j
     ·rename_i fv hfv
      rcases j.run with⟨g,first,cap,rfl,W⟩|⟨l,rfl,W⟩
      rotate_left
      ·obtain⟨fn,tmps,assign,body,S,Y⟩:=W.run w rfl
       refine .inr (.inr (.inr ⟨l,fn,tmps,assign,body,?_,fun c cs=>?_⟩))
       ·rw[←S]
        simp[execOp,resolve,hc,E.args p,q hfv,Deferred.ofValue,invoke]
       ·obtain⟨b,w',F,B,T⟩:=Y c cs
        refine⟨b,w',F,?_,T⟩;obtain⟨t,e,B⟩:=mY B;have Q:ks.length=1:=by rw[←nN ks t,←e];rfl
        match ks,Q,t,e,B with
        | [k],_,t,e,B=>rw[←e]at B;exact B
      refine J (s':=callFunc g (first.toList++args++cap.toList).toArray) (fun w=>?_) W.out
      have e:first++args.toArray++cap=(first.toList++args++cap.toList).toArray:=by apply bX;simp
      rw[←e];simp[execOp,resolve,hc,E.args p,q hfv,Deferred.ofValue,invoke]
     ·exact j.elim
  ·exact j.elim
 |_=>simp only[yn]at j
end Go.Lift
