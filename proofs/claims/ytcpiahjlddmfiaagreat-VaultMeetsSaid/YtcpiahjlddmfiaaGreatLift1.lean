/- A part of the proof that the named laws of this program answer true, whatever the input. -/
import Derived.Test.YtcpiahjlddmfiaaGreatLift0
import Derived.Laws.Append
import Derived.Laws.Cover3
import Derived.Laws.StructEq
import Derived.Laws.BytesString
import Derived.Lib.ConvBytes
open Array renaming ext'→cM,getElem?_toList→aW,mem_filter→qv
open Bool renaming and_eq_true→aR,false_eq_true→df
open ByteArray renaming data_extract→pW
open List renaming extract_eq_take_drop→gi,map_cons→bK,map_map→iE,take_of_length_le→bj,length_cons→ao,cons_append→fy,replicate→fR,length_eq_zero_iff→aE,getElem?_eq_getElem→aj
open Nat renaming beq→bB,ble→yq,eq_of_beq_eq_true→aQ,le_of_ble_eq_true→jd,add_zero→iA,zero_add→aH,le_add_right→qr,min→dD
open Option renaming some→bD,isSome_iff_exists→gP,map_some→ot
open Prod renaming mk→qC
open UInt8 renaming ofNat→uz
namespace Go.Lift
open Go
def Rd(S:Option (ac→Prop))(h:ac):Prop:=match S with|none=>True|some f=>f h
def Yv(P:Program)(s:Sem Value)(K:RK)(h:ac):Prop:=∃v S,K v S∧Rd S h∧∀w:World,Rd S w.heap→s.run P w=.ok v w
theorem Yv.of_pure{P:Program}{s:Sem Value}{K:RK}{h:ac}{v:Value}(a:K v none)(b:∀w:World,s.run P w=.ok v w):Yv P s K h:=
 ⟨v,none,a,trivial,fun w _=>b w⟩
variable {P:Program}
theorem xC{t:TypeId}{f:Nat}{u:TypeId}{off:Nat}(h:xD P t f=some (u,off)):
  ∃fs g,P.underlying t=some (.struct fs)∧fs[f]? =some g∧g.type=u∧g.offset=off:=by
 unfold xD at h;split at h
 ·rename_i fs hu
  split at h
  ·rename_i g hg
   simp only[bD.injEq,qC.injEq]at h;exact⟨fs,g,hu,by simpa using hg,h.1,h.2⟩
  ·cases h
 ·cases h
theorem zl{t:TypeId}(h:bB (bM P t) 0=false)(w:World):(sizeOf t).run P w=.ok (bM P t) w:=by
 unfold bM at h⊢;cases hi:P.info? t with
 |none=>rw[hi]at h;cases h
 |some i=>simp[sizeOf,cI hi]
theorem DU{t:TypeId}{f:Nat}{u:TypeId}{off:Nat}{a:Addr}{K:RK}{h:ac}(d:xD P t f=some (u,off))
  (b:bif bB (bM P u) 0 then False else K (.pointer (some (adr a off))) none):Yv P (Instr.fieldAt t (.pointer (some a)) f) K h:=by
 obtain⟨k,g,j,i,rfl,rfl⟩:=xC d;cases hz:bB (bM P g.type) 0 with
 |true=>rw[hz]at b;exact b.elim
 |false=>
  rw[hz]at b;refine .of_pure b fun w=>?_
  have c:bM P g.type≠0:=fun e=>by rw[e]at hz;cases hz
  simp only[Instr.fieldAt,Sem.run_bind,aw j,Result.andThen_ok,i,Instr.sureAddr,Sem.run_pure,fieldPlace,zl hz];simp[c,uP]
theorem wB{t:TypeId}{i:TypeInfo}(_:P.info? t=some i)(a:∃d,P.underlying t=some d)(w:World):(isAgg t).run P w=.ok (wC P t) w:=by
 obtain⟨d,hd⟩:=a;simp only[isAgg,Sem.run_bind,aw hd,Result.andThen_ok];unfold wC;rw[hd];cases d<;>rfl
theorem Aq{c:BinOp}{k k':IntKind}{a b:Int}{K:RK}{h:ac}(g:c=.shl∨c=.shr)(f:Lv c k a b K):Yv P (Op.shift c k a k' b) K h:=by
 rcases g with rfl|rfl
 ·obtain⟨e,d⟩:=f
  refine .of_pure d fun w=>?_
  simp[Op.shift,Int.not_lt.2 e]
 ·obtain⟨e,d⟩:=f
  refine .of_pure d fun w=>?_
  simp[Op.shift,Int.not_lt.2 e]
theorem L9{c:BinOp}{k:IntKind}{a b:Int}{K:RK}{h:ac}(d:Tu c k a b K)(g:c≠ .shl∧c≠ .shr):Yv P (binOp c 0 (.int k a) (.int k b)) K h:=by
 cases c<;>simp only[Tu]at d
 case quo=>obtain⟨f,e⟩:=d;exact .of_pure e fun w=>by simp[binOp,Op.intDiv,f]
 case rem=>obtain⟨f,e⟩:=d;exact .of_pure e fun w=>by simp[binOp,Op.intDiv,f]
 all_goals exact .of_pure d fun w=>by simp[binOp,Op.intArith,Op.intBits,Op.intCmp]
theorem FC(c:BinOp)(t:TypeId)(k k':IntKind)(a b:Int):binOp c t (.int k a) (.int k' b)=binOp c 0 (.int k a) (.int k' b):=by
 cases c<;>rfl
theorem Lr{d:BinOp}{t:TypeId}{a b:ByteArray}{K:RK}{h:ac}(c:S7 d a b K):Yv P (binOp d t (.string a) (.string b)) K h:=by
 cases d<;>simp only[S7]at c
 case add=>
  obtain⟨f,e⟩:=c;refine .of_pure e fun w=>?_
  have:¬(((a.size+b.size:Nat):Int)>IntKind.i64.max):=by
   have:IntKind.i64.max=9223372036854775807:=by decide
   omega
  simp only[binOp,Op.stringOp,if_neg this,Sem.run_pure]
 all_goals exact .of_pure c fun w=>by simp[binOp,Op.stringOp]
theorem qV{t:TypeId}{x y:Value}{b:Bool}{w:World}(h:∀d,(Op.equalIn (d+1) t x y).run P w=.ok b w):(Op.equal t x y).run P w=.ok b w:=h 9999
theorem Fi{t:TypeId}{e:TypeId}(b:P.underlying t=some (.pointer e))(a:Option Addr)(w:World):(Op.equal t (.pointer a) (.pointer none)).run P w=.ok a.isNone w:=by
 refine qV fun d=>?_
 simp only[Op.equalIn,Sem.run_bind,aw b,Result.andThen_ok];cases a<;>rfl
theorem Mn(e:BinOp)(t:TypeId)(x y:Operand)(a b:Value)(h:∀c d,a=.agg c→b=.agg d→False)(hi:a=.nilIface→b=.nilIface→False)(w:World):
  (eqGuard e t x y a b).run P w=.ok () w:=by
 cases e;case eql=>cases a<;>cases b<;>first|rfl|exact(hi rfl rfl).elim|exact(h _ _ rfl rfl).elim
 case neq=>cases a<;>cases b<;>first|rfl|exact(hi rfl rfl).elim|exact(h _ _ rfl rfl).elim
 all_goals rfl
theorem OQ(t:TypeId)(x y:Value)(hx:∀k a,x≠ .int k a)(d:∀s,x≠ .string s)(c:∀k a,x≠ .float k a)(hc:∀k a b,x≠ .complex k a b):binOp .eql t x y=(do pure (.bool (←Op.equal t x y))):=by
 cases x<;>first|rfl|exact absurd rfl (hx _ _)|exact absurd rfl (d _)|exact absurd rfl (c _ _)|exact absurd rfl (hc _ _ _)
theorem OO(t:TypeId)(x y:Value)(hx:∀k a,x≠ .int k a)(d:∀s,x≠ .string s)(c:∀k a,x≠ .float k a)(hc:∀k a b,x≠ .complex k a b):binOp .neq t x y=(do pure (.bool (!(←Op.equal t x y)))):=by
 cases x<;>first|rfl|exact absurd rfl (hx _ _)|exact absurd rfl (d _)|exact absurd rfl (c _ _)|exact absurd rfl (hc _ _ _)
theorem qW{t:TypeId}{neg:Bool}{x y:Value}{b:Bool}{w:World}(e:(Op.equal t x y).run P w=.ok b w)
  (hx:∀k a,x≠ .int k a)(d:∀s,x≠ .string s)(c:∀k a,x≠ .float k a)(hc:∀k a b,x≠ .complex k a b):
  (binOp (bif neg then .neq else .eql) t x y).run P w=.ok (.bool (bif neg then !b else b)) w:=by
 cases neg
 ·simp only[cond_false,OQ t x y hx d c hc,Sem.run_bind,e,Result.andThen_ok,Sem.run_pure]
 ·simp only[cond_true,OO t x y hx d c hc,Sem.run_bind,e,Result.andThen_ok,Sem.run_pure]
theorem EY{t:TypeId}{neg:Bool}{x y:Value}{K:RK}{h:ac}(b:RO P t neg x y K):
  (∀c d,x=.agg c→y=.agg d→False)∧(x=.nilIface→y=.nilIface→False)∧Yv P (binOp (bif neg then .neq else .eql) t x y) K h:=by
 unfold RO at b;split at b
 ·rename_i e a hu
  refine⟨nofun,nofun,.of_pure b fun w=>?_⟩
  exact qW (Fi hu a w) nofun nofun nofun nofun
 ·rename_i k e a hu
  refine⟨nofun,nofun,.of_pure b fun w=>?_⟩
  refine qW ?_ nofun nofun nofun nofun;refine qV fun d=>?_
  simp only[Op.equalIn,Sem.run_bind,aw hu,Result.andThen_ok];cases a<;>rfl
 ·rename_i e a _ _ _ _ hu
  refine⟨nofun,nofun,.of_pure b fun w=>?_⟩
  refine qW ?_ nofun nofun nofun nofun;refine qV fun d=>?_
  simp only[Op.equalIn,Sem.run_bind,aw hu,Result.andThen_ok];cases a<;>rfl
 ·exact b.elim
theorem xh{w:World}{a b:Addr}(d:fa w.heap a)(f:fa w.heap b):(sameAddr a b).run P w=.ok (a==b) w:=by
 obtain⟨j,o,d,y⟩:=d;obtain⟨g,p,f,sb⟩:=f;by_cases c:a.block=b.block
 ·simp[sameAddr,c]
 ·have i:(a==b)=false:=by
   rw[beq_eq_false_iff_ne];intro e;exact c (by rw[e])
  have u:w.shape? a.block=some (o,j.size):=by simp[World.shape?,d]
  have q:w.shape? b.block=some (p,g.size):=by simp[World.shape?,f]
  have t:∀n,w.frozen? ({block:=a.block,off:=n}:Addr)=false:=fun n=>by simp[World.frozen?,d]
  have k:∀n,w.frozen? ({block:=b.block,off:=n}:Addr)=false:=fun n=>by simp[World.frozen?,f]
  have v:w.frozen? a=false:=by simp[World.frozen?,d]
  have x:w.frozen? b=false:=by simp[World.frozen?,f]
  obtain⟨m,hm⟩:∃m,j.size=m+1:=⟨j.size-1,by omega⟩
  obtain⟨n,s⟩:∃n,g.size=n+1:=⟨g.size-1,by omega⟩
  simp[sameAddr,c,noView,viewAt,mayBeOne,stringish,u,q,t,k,v,x,hm,s,i]
theorem Hu{t:TypeId}{neg:Bool}{x y:Value}{K:RK}{h:ac}(g:UZ P t neg x y K h):
  (∀c d,x=.agg c→y=.agg d→False)∧(x=.nilIface→y=.nilIface→False)∧Yv P (binOp (bif neg then .neq else .eql) t x y) K h:=by
 unfold UZ at g;split at g
 ·rename_i a b hu
  refine⟨nofun,nofun,.of_pure g fun w=>?_⟩
  refine qW ?_ nofun nofun nofun nofun;refine qV fun d=>?_
  simp only[Op.equalIn,Sem.run_bind,aw hu,Result.andThen_ok,Sem.run_pure]
 ·rename_i e a b hu
  obtain⟨j,o,n⟩:=g;refine⟨nofun,nofun,_,_,n,o,fun w k=>?_⟩
  refine qW ?_ nofun nofun nofun nofun;have f:bB (bM P e) 0=false:=by
   cases hb:bB (bM P e) 0 with
   |false=>rfl
   |true=>rw[hb]at j;exact j.elim
  have i:bM P e≠0:=fun e=>by rw[e]at f;cases f
  refine qV fun d=>?_
  simp only[Op.equalIn,Sem.run_bind,aw hu,Result.andThen_ok];cases a with
  |none=>cases b<;>rfl
  |some a=>cases b with
   |none=>rfl
   |some b=>
    obtain⟨p,m⟩:=k a b rfl rfl;simp only[Sem.run_bind,zl f,Result.andThen_ok,ne_eq,i,not_false_eq_true,if_true,xh p m];rfl
 ·exact g.elim
theorem LN{f:BinOp}{t:TypeId}{x y:Value}{K:RK}{h:ac}(e:Th P f t x y K h):
  (∀c d,x=.agg c→y=.agg d→False)∧(x=.nilIface→y=.nilIface→False)∧Yv P (binOp f t x y) K h:=by
 unfold Th at e;split at e
 ·rename_i k a k' b
  refine⟨nofun,nofun,?_⟩;rw[FC];split at e
  ·exact Aq (k':=k') (.inl rfl) e
  ·exact Aq (k':=k') (.inr rfl) e
  ·rename_i h1 h2
   cases hk:Iw k' k with
   |false=>rw[hk]at e;exact e.elim
   |true=>rw[hk]at e;have:=AG hk;subst this;exact L9 e ⟨h1,h2⟩
 ·exact⟨nofun,nofun,Lr e⟩
 ·split at e
  ·exact Hu (neg:=false) e
  ·exact Hu (neg:=true) e
  ·exact e.elim
theorem JZ{u:TypeId}{cs:List Value}{off:Nat}(a:((P.underlying u).isSome&&(P.info? u).isSome)=true){w:World}(b:wC P u=true):
  (part u cs.toArray off).run P w=.ok (.agg ((cs.drop off).take (bM P u)).toArray) w:=by
 simp only[aR,gP]at a;obtain⟨a,i,hi⟩:=a;have c:(sizeOf u).run P w=.ok (bM P u) w:=by simp[sizeOf,cI hi,bM,hi]
 simp only[part,Sem.run_bind,wB hi a,Result.andThen_ok,b,if_true,c,Sem.run_pure];congr 2
 apply cM;simp[gi]
theorem G4{u:TypeId}{cs:List Value}{off:Nat}(a:((P.underlying u).isSome&&(P.info? u).isSome)=true){w:World}(c:wC P u=false){v:Value}(hc:cs[off]? =some v):
  (part u cs.toArray off).run P w=.ok v w:=by
 simp only[aR,gP]at a;obtain⟨a,i,hi⟩:=a;have b:cs.toArray[off]? =some v:=by simpa using hc
 simp only[part,Sem.run_bind,wB hi a,Result.andThen_ok,c,df,if_false,b,Sem.run_pure]
theorem zq{h:ac}:∀{l m:List (Option Addr×Option Addr)},sE h (l++m)→sE h l∧sE h m
 | [],_,h=>⟨trivial,h⟩
 |(_,_)::_,_,h=>⟨⟨h.1,(zq h.2).1⟩,(zq h.2).2⟩
theorem Kt{t:TypeId}{x y:Value}{b:Bool}{l:List (Option Addr×Option Addr)}(f:Qp P t x y=some (b,l)){w:World}(j:sE w.heap l)(d:Nat):
  (Op.equalIn (d+1) t x y).run P w=.ok b w:=by
 unfold Qp at f;split at f
 ·rename_i k0 k a k' c hu
  cases hk:Iw k' k with
  |false=>rw[hk]at f;cases f
  |true=>
   rw[hk]at f;have:=AG hk;subst this;cases f;exact run_equalIn_int w d t _ _ _ _ hu
 ·rename_i a c hu
  cases f;exact run_equalIn_bool w d t _ _ hu
 ·rename_i a c hu
  cases f;exact run_equalIn_string w d t _ _ hu
 ·rename_i e a c hu
  cases hz:bB (bM P e) 0 with
  |true=>rw[hz]at f;cases f
  |false=>
   rw[hz]at f;cases f;have g:bM P e≠0:=fun e=>by rw[e]at hz;cases hz
   simp only[Op.equalIn,Sem.run_bind,aw hu,Result.andThen_ok];cases a with
   |none=>cases c<;>rfl
   |some a=>cases c with
    |none=>rfl
    |some c=>
     obtain⟨m,i⟩:=j.1 a c rfl rfl;simp only[Sem.run_bind,zl hz,Result.andThen_ok,ne_eq,g,not_false_eq_true,if_true,xh m i];rfl
 ·cases f
theorem Fj{rec:TypeId→List Value→List Value→Option (Bool×List (Option Addr×Option Addr))}{d:Nat}{xs ys:List Value}{w:World}
  (e:∀t us vs b l,rec t us vs=some (b,l)→sE w.heap l→(Op.equalIn (d+1) t (.agg us.toArray) (.agg vs.toArray)).run P w=.ok b w):
  ∀(fs:List Field) (b:Bool) (l:List (Option Addr×Option Addr)),Sk P rec xs ys fs=some (b,l)→sE w.heap l→(Op.eqFields (d+1) xs.toArray ys.toArray fs).run P w=.ok b w
 | [],b,l,he,_=>by cases he;rfl
 |f::fs,b,l,he,hp=>by
  unfold Sk at he;split at he
  ·cases he
  ·rename_i hn
   cases hi:((P.underlying f.type).isSome&&(P.info? f.type).isSome)with
   |false=>rw[hi]at he;cases he
   |true=>
    rw[hi]at he;simp only[cond_true]at he;split at he
    ·rename_i b1 l1 c m e1 e2
     cases he;obtain⟨g,n⟩:=zq hp;have a:=Fj e fs c m e2 n;have o:∃u v,(part f.type xs.toArray f.offset).run P w=.ok u w∧(part f.type ys.toArray f.offset).run P w=.ok v w∧(Op.equalIn (d+1) f.type u v).run P w=.ok b1 w:=by
      cases ha:wC P f.type with
      |true=>
       rw[ha]at e1;exact⟨_,_,JZ hi ha,JZ hi ha,e _ _ _ _ _ e1 g⟩
      |false=>
       rw[ha]at e1;simp only[cond_false]at e1;split at e1
       ·rename_i x y hx hy
        exact⟨x,y,G4 hi ha hx,G4 hi ha hy,Kt e1 g d⟩
       ·cases e1
     obtain⟨u,v,i,k,j⟩:=o;simp only[Op.eqFields,ne_eq,hn,not_false_eq_true,if_true,Sem.run_bind,i,k,j,Result.andThen_ok];cases b1
     ·rfl
     ·exact a
    ·cases he
theorem zE{w:World}:∀(m:Nat) (t:TypeId) (xs ys:List Value) (b:Bool) (l:List (Option Addr×Option Addr)),Qq P m t xs ys=some (b,l)→sE w.heap l→
  ∀d,(Op.equalIn (d+m+1) t (.agg xs.toArray) (.agg ys.toArray)).run P w=.ok b w
 |0,_,_,_,_,_,he,_,_=>by cases he
 |m+1,t,xs,ys,b,l,he,hp,d=>by
  unfold Qq at he;split at he
  ·rename_i fs hu
   cases hs:P.stoodInHeld t with
   |true=>rw[hs]at he;cases he
   |false=>
    rw[hs]at he;have a:P.fieldsOf t=fs:=by simp[Program.fieldsOf,hu]
    rw[run_equalIn_struct w _ t _ _ (by rw[a];exact hu) hs,a];exact Fj (d:=d+m) (fun t f vs b l e c=>zE m t f vs b l e c d) fs.toList b l he hp
  ·cases he
theorem Hv{neg b:Bool}{K:RK}{h:ac}{l:List (Option Addr×Option Addr)}(a:Vy neg b K h l):∃S,K (.bool (bif neg then !b else b)) S∧Rd S h∧∀h',Rd S h'→sE h' l:=by
 cases l with
 |nil=>exact⟨none,a,trivial,fun _ _=>trivial⟩
 |cons p l=>exact⟨_,a.2,a.1,fun _ h=>h⟩
theorem LO{e:BinOp}{t:TypeId}{xs ys:Array Value}{x y:Operand}{K:RK}{h:ac}(a:Ti P e t xs.toList ys.toList K h):
  ∃v S,K v S∧Rd S h∧∀w:World,Rd S w.heap→(do eqGuard e t x y (.agg xs) (.agg ys);binOp e t (.agg xs) (.agg ys):Sem Value).run P w=.ok v w:=by
 unfold Ti at a;cases hg:P.eqGuardType P.depth t with
 |true=>rw[hg]at a;exact a.elim
 |false=>
  rw[hg]at a;simp only[cond_false]at a;split at a
  ·split at a
   ·rename_i b l he
    obtain⟨S,g,d,f⟩:=Hv a;refine⟨_,S,g,d,fun w c=>?_⟩
    have:=zE 10 t _ _ b l he (f _ c) 9989;simp only[Array.toArray_toList]at this;simp only[Sem.run_bind,run_eqGuard_agg w _ t x y _ _ hg,Result.andThen_ok,run_eql_struct,this];rfl
   ·exact a.elim
  ·split at a
   ·rename_i b l he
    obtain⟨S,g,d,f⟩:=Hv a;refine⟨_,S,g,d,fun w c=>?_⟩
    have:=zE 10 t _ _ b l he (f _ c) 9989;simp only[Array.toArray_toList]at this;simp only[Sem.run_bind,run_eqGuard_agg w _ t x y _ _ hg,Result.andThen_ok,run_neq_struct,this];rfl
   ·exact a.elim
  ·exact a.elim
theorem Oa{b:UnOp}{x:Value}{K:RK}{h:ac}(a:Vi b x K):Yv P (Op.unary b x) K h:=by
 unfold Vi at a;split at a
 ·exact .of_pure a fun w=>rfl
 ·exact .of_pure a fun w=>rfl
 ·exact .of_pure a fun w=>rfl
 ·exact a.elim
theorem FB:∀(l:List UInt8) (s:ByteArray),(l.map fun b=>((b.toNat:Nat):Int)).foldl (fun r n=>r.push (uz n.toNat)) s=⟨s.data++l.toArray⟩
 | [],s=>by simp
 |b::l,s=>by
  simp only[bK,List.foldl_cons];rw[FB l];congr 1
  have:uz ((b.toNat:Nat):Int).toNat=b:=by simp
  rw[this];apply cM;simp[ByteArray.push]
theorem E6{e:TypeId}(h:L8 P e=true):P.underlying e=some (.int .u8):=by
 unfold L8 at h;split at h
 ·assumption
 ·cases h
theorem JL{w:World}{a:Addr}{vs:List Value}(c:Row w.heap a vs):(loadCells a vs.length).run P w=.ok vs.toArray w:=by
 have:=run_firstCells_some (P:=P) w 1 vs.length a 0 0 vs (by simp) fun j v b=>by rw[←uP];exact c j v b
 simpa[Builtin.firstCells]using this
theorem JS{g j:TypeId}{x:Value}{K:RK}{h:ac}(f:PP P g j x K h):Yv P (convert g j x) K h:=by
 unfold PP at f;split at f
 ·rename_i k k' k'' n h1 h2
  exact .of_pure f fun w=>by simp only[convert,Sem.run_bind,aw h1,aw h2,Result.andThen_ok];rfl
 ·rename_i s h1 h2
  exact .of_pure f fun w=>by simp only[convert,Sem.run_bind,aw h1,aw h2,Result.andThen_ok];rfl
 ·rename_i e a n c h1 h2
  cases hu:L8 P e with
  |false=>rw[hu]at f;exact f.elim
  |true=>
   rw[hu]at f;obtain⟨s,t,z⟩:=f;refine⟨_,_,z,t,fun w o=>?_⟩
   rw[run_convert_bytes_string w g j e a n c h1 (E6 hu) h2];obtain⟨p,o⟩:=o;rcases o with q|⟨b,rfl,u⟩
   ·have m:s=ByteArray.empty:=by
     have:s.data.toList= []:=by simpa[dN]using q
     cases s with
     |mk d=>simp at this;subst this;rfl
    cases a with
    |none=>rw[m];rfl
    |some b=>
     have y:n=0:=by rw[←p,q];rfl
     subst y;have:=JL (P:=P) (w:=w) (a:=b) (vs:= []) fun i v f=>by simp at f
     rw[run_bytesToString w b 0 c [] (by simpa using this),m];rfl
   ·have:=JL (P:=P) u
    rw[p]at this;rw[run_bytesToString w b n c (s.data.toList.map fun b=>((b.toNat:Nat):Int)) (by rw[this,iE];rfl),FB]
    cases s;simp[ByteArray.empty,ByteArray.emptyWithCapacity];try rfl
 ·exact f.elim
theorem LU{u:TypeId}{cs:Array Value}{off:Nat}{K:RK}{h:ac}(c:∃d,P.underlying u=some d)(hi:∃i,P.info? u=some i)
  (a:bif wC P u then K (.agg ((cs.toList.drop off).take (bM P u)).toArray) none else(match cs.toList[off]? with|some v=>K v none|none=>False)):Yv P (part u cs off) K h:=by
 obtain⟨i,hi⟩:=hi;cases ha:wC P u with
 |true=>
  rw[ha]at a;refine .of_pure a fun w=>?_
  have e:(sizeOf u).run P w=.ok (bM P u) w:=by simp[sizeOf,cI hi,bM,hi]
  simp only[part,Sem.run_bind,wB hi c,Result.andThen_ok,ha,if_true,e,Sem.run_pure];congr 2
  apply cM;simp[gi]
 |false=>
  rw[ha]at a;simp only[cond_false]at a;cases hc:cs.toList[off]? with
  |none=>rw[hc]at a;exact a.elim
  |some v=>
   rw[hc]at a;refine .of_pure a fun w=>?_
   have b:cs[off]? =some v:=by simpa using hc
   simp only[part,Sem.run_bind,wB hi c,Result.andThen_ok,ha,df,if_false,b,Sem.run_pure]
def wZ(P:Program)(v:Option Value)(d y n:Nat):Prop:=
 match v with
 |some x=>∀c w,(Instr.sliceBound x y c).run P w=.ok n w
 |none=>n=d
theorem mI{v:Option Value}{d y:Nat}{K:Nat→Prop}(a:QL v d y K):∃n,K n∧wZ P v d y n:=by
 unfold QL at a;split at a
 ·exact⟨d,a,rfl⟩
 ·rename_i k i
  obtain⟨⟨f,e⟩,b⟩:=a;refine⟨i.toNat,b,fun c w=>?_⟩
  simp[Instr.sliceBound,asIntOf,f,e]
 ·exact a.elim
theorem p8{c:Bool}{len cap n l:Nat}{lo hi:Option Value}(a:wZ P hi len cap n)(b:wZ P lo 0 n l)(w:World):
  (Instr.sliceBounds c len cap lo hi none).run P w=.ok (l,n,cap) w:=by
 cases hi with
 |none=>
  cases lo with
  |none=>simp only[wZ]at a b;subst a;subst b;simp[Instr.sliceBounds]
  |some lo=>simp only[wZ]at a b;subst a;simp[Instr.sliceBounds,b]
 |some hi=>
  cases lo with
  |none=>simp only[wZ]at a b;subst b;simp[Instr.sliceBounds,a]
  |some lo=>simp only[wZ]at a b;simp[Instr.sliceBounds,a,b]
theorem BR{c:Bool}{len cap n l m:Nat}{lo:Option Value}{hi d:Value}(hm:wZ P (some d) 0 cap m)(a:wZ P (some hi) 0 m n)(b:wZ P lo 0 n l)(w:World):
  (Instr.sliceBounds c len cap lo (some hi) (some d)).run P w=.ok (l,n,m) w:=by
 cases lo with
 |none=>simp only[wZ]at hm a b;subst b;simp[Instr.sliceBounds,hm,a]
 |some lo=>simp only[wZ]at hm a b;simp[Instr.sliceBounds,hm,a,b]
theorem zi(a:Option Addr)(l m size:Nat):(if m=l then a else a.map (·.add (l*size)))=aJ a l m size:=by
 unfold aJ;split
 ·rfl
 ·congr 1;funext x;rw[uP]
theorem qa{t:TypeId}{K:Prop}(h:PW P t K):K∧∀w,(sizeOf t).run P w=.ok (bM P t) w:=by
 unfold PW at h;cases hi:P.info? t with
 |none=>rw[hi]at h;exact h.elim
 |some i=>rw[hi]at h;exact⟨h,fun w=>by simp[sizeOf,cI hi,bM,hi]⟩
theorem Ia{t:TypeId}{x:Value}{f:Nat}{K:RK}{h:ac}(a:LL P t x f K):Yv P (Instr.field t x f) K h:=by
 unfold LL at a;split at a
 ·rename_i u off cs hf
  obtain⟨k,g,j,i,rfl,rfl⟩:=xC hf;cases hb:((P.underlying g.type).isSome&&(P.info? g.type).isSome)with
  |false=>rw[hb]at a;exact a.elim
  |true=>
   rw[hb]at a;simp only[aR,gP]at hb;obtain⟨v,S,e,c,d⟩:=LU (cs:=cs) (off:=g.offset) (h:=h) hb.1 hb.2 a;refine⟨v,S,e,c,fun w b=>?_⟩
   have:=d w b;simp only[Instr.field,Sem.run_bind,aw j,Result.andThen_ok,i,asAgg,Sem.run_pure,this]
 ·exact a.elim
theorem B5{t:TypeId}{x i:Value}{K:RK}{h:ac}(c:zn P t x i K):Yv P (Instr.indexAt t x i) K h:=by
 unfold zn at c;split at c
 ·rename_i n e a k i hu
  obtain⟨⟨⟨g,j⟩,f⟩,d⟩:=qa c;refine .of_pure f fun w=>?_
  simp[Instr.indexAt,asIntOf,aw hu,Instr.sureAddr,g,j,d,uP]
 ·rename_i e b len cap k i hu
  obtain⟨⟨⟨g,j⟩,a,rfl,f⟩,d⟩:=qa c;refine .of_pure f fun w=>?_
  simp[Instr.indexAt,asIntOf,aw hu,g,j,d,uP]
 ·exact c.elim
theorem H9{t:TypeId}{x i:Value}{K:RK}{h:ac}(a:LK P t x i K):Yv P (Instr.index t x i) K h:=by
 unfold LK at a;split at a
 ·rename_i s k i hu
  obtain⟨b,e,d,c⟩:=a;refine .of_pure c fun w=>?_
  simp[Instr.index,asIntOf,aw hu,e,d]
 ·exact a.elim
theorem H7{t:TypeId}{x:Value}{lo hi f:Option Value}{K:RK}{h:ac}(b:LI P t x lo hi f K):Yv P (Instr.sliceAt t x lo hi f) K h:=by
 unfold LI at b;split at b
 ·rename_i s hu
  cases f with
  |some _=>exact b.elim
  |none=>
   obtain⟨n,b,d⟩:=mI (P:=P) b;obtain⟨l,b,c⟩:=mI (P:=P) b;refine .of_pure b fun w=>?_
   simp[Instr.sliceAt,Instr.slice,aw hu,p8 d c]
 ·rename_i e a len cap hu
  obtain⟨b,g⟩:=qa b;cases f with
  |none=>
   obtain⟨n,b,d⟩:=mI (P:=P) b;obtain⟨l,b,c⟩:=mI (P:=P) b;refine .of_pure b fun w=>?_
   simp[Instr.sliceAt,Instr.slice,aw hu,p8 d c,g,zi]
  |some m=>
   cases hi with
   |none=>exact b.elim
   |some hi=>
    obtain⟨j,b,hm⟩:=mI (P:=P) b;obtain⟨n,b,d⟩:=mI (P:=P) b;obtain⟨l,b,c⟩:=mI (P:=P) b;refine .of_pure b fun w=>?_
    simp[Instr.sliceAt,Instr.slice,aw hu,BR hm d c,g,zi]
 ·rename_i n e a hu
  obtain⟨b,g⟩:=qa b;cases f with
  |some _=>exact b.elim
  |none=>
   obtain⟨m,b,d⟩:=mI (P:=P) b;obtain⟨l,b,c⟩:=mI (P:=P) b;refine .of_pure b fun w=>?_
   have i:(some (if n=l then a else a.add (l*bM P e)))=aJ (some a) l n (bM P e):=by
    rw[←zi];split<;>rfl
   simp[Instr.sliceAt,aw hu,Instr.sureAddr,p8 d c,g,i]
 ·exact b.elim
def pD(d:TypeDesc)(c:CK):Prop:=(∃i,d=.int i∧c=.int i)∨(d=.string∧c=.str)∨(d=.bool∧c=.bool)
theorem xw{t:TypeId}{c:CK}{e:TypeId}(h:Ki P t=some (c,e)):∃k d,P.underlying t=some (.map k e)∧P.underlying k=some d∧pD d c:=by
 unfold Ki at h;split at h
 ·rename_i k e' hu
  split at h
  ·rename_i i hk
   simp only[bD.injEq,qC.injEq]at h;obtain⟨rfl,rfl⟩:=h;exact⟨k,_,hu,hk,.inl ⟨i,rfl,rfl⟩⟩
  ·rename_i hk
   simp only[bD.injEq,qC.injEq]at h;obtain⟨rfl,rfl⟩:=h;exact⟨k,_,hu,hk,.inr (.inl ⟨rfl,rfl⟩)⟩
  ·rename_i hk
   simp only[bD.injEq,qC.injEq]at h;obtain⟨rfl,rfl⟩:=h;exact⟨k,_,hu,hk,.inr (.inr ⟨rfl,rfl⟩)⟩
  ·cases h
 ·cases h
theorem Dc{d:TypeDesc}{c:CK}(hd:pD d c)(x y:c.den):Instr.sameNow d (c.enc x) (c.enc y)=some (fG (c.enc x) (c.enc y)):=by
 rcases hd with⟨i,rfl,rfl⟩|⟨rfl,rfl⟩|⟨rfl,rfl⟩
 ·simp[Instr.sameNow,CK.enc,fG]
 ·simp[Instr.sameNow,CK.enc,fG]
 ·simp[Instr.sameNow,CK.enc,fG]
theorem Dr{d:TypeDesc}{c:CK}(hd:pD d c)(x:c.den):∀(es:List MapEntry) (i:Nat),keysOf c es→
  ∃r,Instr.findNow d (c.enc x) es i=some r∧r.map (·.2)=Fe (c.enc x) es
 | [],i,_=>⟨none,rfl,rfl⟩
 |e::es,i,h=>by
  obtain⟨y,f⟩:=h e (by simp);have a:=Dc hd x y;rw[←f]at a;simp only[Instr.findNow,Fe];cases hb:fG (c.enc x) e.key with
  |true=>rw[a,hb];exact⟨some (i,e.val),rfl,rfl⟩
  |false=>rw[a,hb];exact Dr hd x es (i+1) fun g b=>h g (by simp[b])
theorem Kz{a:Bool}{k:TypeId}{d:TypeDesc}{c:CK}(hd:pD d c)(b:P.underlying k=some d)(v:Value)(n:Nat)(w:World):(Instr.checkKey a (n+1) k v).run P w=.ok () w:=by
 unfold Instr.checkKey;simp only[Sem.run_bind,aw b,Result.andThen_ok];rcases hd with⟨i,rfl,rfl⟩|⟨rfl,rfl⟩|⟨rfl,rfl⟩<;>rfl
theorem wd{k:TypeId}{d:TypeDesc}{c:CK}(hd:pD d c)(b:P.underlying k=some d)(x:c.den){es:List MapEntry}(h:keysOf c es)(w:World):
  ∃r,(Instr.findKey k (c.enc x) es).run P w=.ok r w∧Instr.findNow d (c.enc x) es 0=some r∧r.map (·.2)=Fe (c.enc x) es:=by
 obtain⟨r,a,hm⟩:=Dr hd x es 0 h;refine⟨r,?_,a,hm⟩;simp only[Instr.findKey,Sem.run_bind,aw b,Result.andThen_ok,a,Sem.run_pure]
theorem l9{w:World}{r:Nat}{es:Array MapEntry}{a:Nat}(h:w.heap[r]? =some (.map es a)):(getObj r).run P w=.ok (.map es a) w:=by
 simp only[getObj,Sem.run,h]
theorem nR{a:Bool}{k:TypeId}{d:TypeDesc}{c:CK}(hd:pD d c)(b:P.underlying k=some d)(v:Value)(w:World):(Instr.checkKey a 10000 k v).run P w=.ok () w:=
 Kz hd b v 9999 w
theorem L3{t:TypeId}{c:CK}{e k:TypeId}{d:TypeDesc}(q:P.underlying t=some (.map k e))(f:P.underlying k=some d)(hd:pD d c){m:Option Nat}{x:c.den}{z v:Value}{b ok:Bool}{w:World}
  (p:(zeroValue e).run P w=.ok z w)(hm:kG c z w.heap m (c.enc x) v b):
  (Instr.lookup t (.map m) (c.enc x) ok).run P w=.ok (bif ok then .tuple #[v,.bool b]else v) w:=by
 cases m with
 |none=>
  obtain⟨rfl,rfl⟩:=hm;simp only[Instr.lookup,Sem.run_bind,aw q,Result.andThen_ok,Sem.run_pure,nR hd f];obtain⟨r,o,j,a⟩:=wd (P:=P) hd f x (es:= []) (fun _ h=>by cases h) w
  simp only[Instr.findNow,bD.injEq]at j;subst j;simp[o,p]
 |some r=>
  obtain⟨es,i,s,n,g⟩:=hm;simp only[Instr.lookup,Sem.run_bind,aw q,Result.andThen_ok,l9 s,Sem.run_pure,nR hd f];obtain⟨r,o,j,a⟩:=wd (P:=P) hd f x n w;simp only[o,Result.andThen_ok];cases r with
  |none=>
   simp only[Option.map_none]at a;rw[←a]at g;obtain⟨rfl,rfl⟩:=g;simp[p]
  |some r=>
   simp only[ot]at a;rw[←a]at g;obtain⟨rfl,rfl⟩:=g;cases ok<;>rfl
theorem eC{e:TypeId}{z:Value}(h:yF P e=some z)(w:World):(zeroValue e).run P w=.ok z w:=by
 unfold yF at h;cases hi:P.info? e with
 |none=>rw[hi]at h;cases h
 |some i=>rw[hi]at h;simp only at h;simp[zeroValue,cI hi,h]
theorem Gc{t:TypeId}{x k:Value}{ok:Bool}{K:RK}{h:ac}(a:H8 P t x k ok K h):Yv P (Instr.lookup t x k ok) K h:=by
 unfold H8 at a;split at a
 ·rename_i c e m hc
  obtain⟨o,d,i,g,hd⟩:=xw hc;obtain⟨n,rfl,a⟩:=CK.dec_sound a;split at a
  ·rename_i ek z hek hz
   obtain⟨y,b,hm,j⟩:=a;exact⟨_,_,j,hm,fun w f=>L3 i g hd (eC hz w) f⟩
  ·exact a.elim
 ·exact a.elim
theorem Df{w:World}{b cap s q:Nat}{a:Array Value}{c t:Bool}(h:w.heap[b]? =some (.chan cap a c s q t)):(getObj b).run P w=.ok (.chan cap a c s q t) w:=by
 simp only[getObj,Sem.run,h]
theorem LJ{t:TypeId}{x:Value}{ats:Array TypeId}{ty:TypeId}{K:RK}{h:ac}(a:ats[0]? =some t) (d:Tf P t x K h):Yv P (Builtin.len_ ats ty #[x]) K h:=by
 unfold Tf at d;split at d
 ·rename_i s hu
  exact .of_pure d fun w=>by simp[Builtin.len_,a,aw hu,goInt]
 ·rename_i n e _ hu
  exact .of_pure d fun w=>by simp[Builtin.len_,a,aw hu,goInt]
 ·rename_i e b n c hu
  exact .of_pure d fun w=>by simp[Builtin.len_,a,aw hu,goInt]
 ·rename_i k e m hu
  obtain⟨n,hm,i⟩:=d;refine⟨_,_,i,hm,fun w f=>?_⟩
  cases m with
  |none=>
   have:n=0:=f;subst this;simp[Builtin.len_,a,aw hu,goInt]
  |some r=>
   obtain⟨es,g,j,rfl⟩:=f;simp[Builtin.len_,a,aw hu,goInt,l9 j]
 ·rename_i k e m hu
  obtain⟨n,hm,i⟩:=d;refine⟨_,_,i,hm,fun w f=>?_⟩
  cases m with
  |none=>
   have:n=0:=f;subst this;simp[Builtin.len_,a,aw hu,goInt]
  |some r=>
   obtain⟨cap,o,p,s,q,j,rfl⟩:=f;simp[Builtin.len_,a,aw hu,goInt,Df j]
 ·exact d.elim
theorem LM{t:TypeId}{x:Value}{ats:Array TypeId}{ty:TypeId}{K:RK}{h:ac}(a:ats[0]? =some t) (d:Tg P t x K h):Yv P (Builtin.cap_ ats ty #[x]) K h:=by
 unfold Tg at d;split at d
 ·rename_i e b n c hu
  exact .of_pure d fun w=>by simp[Builtin.cap_,a,aw hu,goInt]
 ·rename_i k e m hu
  obtain⟨n,hm,i⟩:=d;refine⟨_,_,i,hm,fun w f=>?_⟩
  cases m with
  |none=>
   have:n=0:=f;subst this;simp[Builtin.cap_,a,aw hu,goInt]
  |some r=>
   obtain⟨cap,g,o,s,q,j,rfl⟩:=f;simp[Builtin.cap_,a,aw hu,goInt,Df j]
 ·exact d.elim
theorem Az{c:Bool}{k:IntKind}:∀{vs:List Value} {a:Int} {f:Value→Prop},Il c k a vs f→∃v,f v∧∀w,(vs.foldlM (bif c then Builtin.max2 else Builtin.min2) (Value.int k a):Sem Value).run P w=.ok v w
 | [],a,f,h=>⟨_,h,fun w=>by simp⟩
 | .int k' b::vs,a,f,h=>by
  simp only[Il]at h;cases hk:Iw k' k with
  |false=>rw[hk]at h;exact h.elim
  |true=>
   rw[hk]at h;have:=AG hk;subst this;obtain⟨v,d,e⟩:=Az h;refine⟨v,d,fun w=>?_⟩
   rw[←e w];cases c<;>simp[List.foldlM_cons,Builtin.max2,Builtin.min2]
theorem yP{a:Bool}{vs:List Value}{f:Value→Prop}{ats:Array TypeId}{ty:TypeId}(h:Ec a vs f):∃v,f v∧∀w,(bif a then Builtin.max_ ats ty vs.toArray else Builtin.min_ ats ty vs.toArray).run P w=.ok v w:=by
 unfold Ec at h;split at h
 ·obtain⟨v,b,c⟩:=Az (P:=P) h
  refine⟨v,b,fun w=>?_⟩
  have:=c w;cases a<;>simpa[Builtin.max_,Builtin.min_]using this
 ·exact h.elim
theorem OC{a:Addr}{e:MapEntry}{w:World}(g:a.off=0)(h:Cz w.heap a.block e):(Instr.entry (.pointer (some a))).run P w=.ok (.tuple #[e.key,e.val]) w:=by
 obtain⟨m,c,d,last,f,es,hi,k,hm,j⟩:=h;obtain⟨b,off,i⟩:=a;simp only at g hi;subst g;have n:(getObj b).run P w=.ok (.mapIter (some m) c d last) w:=by simp only[getObj,Sem.run,hi]
 simp[Instr.entry,n,k,l9 hm,j]
def GB:DV→Value→Prop
 | .t,v=>v=.bool true
 | .f,v=>v=.bool false
 | .u,v=>v=undef
 | .x,_=>True
def DecOk(d:vG)(r:cA):Prop:=∀t,rO d t=.x∨∃v,kg r t=some v∧GB (rO d t) v
theorem DecOk.at{d:vG}{r:cA}(h:DecOk d r){t:Nat}{v:Value}(b:kg r t=some v):GB (rO d t) v:=by
 rcases h t with e|⟨u,a,c⟩
 ·rw[e];trivial
 ·rw[b]at a;cases a;exact c
theorem ve{d:vG}{r:cA}(hd:DecOk d r){o:Operand}{v:Value}(h:dd r o=some v):GB (AO d o) v:=by
 cases o with
 |tmp t=>exact hd.at h
 |const c=>
  simp[dd]at h;subst h;cases c with
  |bool b=>cases b<;>exact rfl
  |_=>trivial
 |global g=>trivial
 |func f=>trivial
theorem Dl{t:TypeId}(h:qK P t=true):∃d,P.underlying t=some d∧∀m,d≠ .interface m:=by
 unfold qK at h;split at h
 ·cases h
 ·rename_i d hd;exact⟨_,hd,fun m e=>by subst e;simp_all⟩
 ·cases h
theorem AC{t:TypeId}{v:Value}(h:qK P t=true)(w:World):(Instr.makeInterface t v).run P w=.ok (.iface t v) w:=by
 obtain⟨d,hd,a⟩:=Dl h;simp only[Instr.makeInterface,Sem.run_bind,aw hd,Result.andThen_ok];cases d<;>first|exact absurd rfl (a _)|rfl
theorem Ev{t u:TypeId}{v:Value}(h:qK P t=true)(w:World):(Instr.typeAssert (.iface t v) u t false).run P w=.ok v w:=by
 obtain⟨d,hd,a⟩:=Dl h;simp only[Instr.typeAssert,Sem.run_bind,aw hd,Result.andThen_ok];cases d<;>first|exact absurd rfl (a _)|(simp[Sem.run_pure])
theorem j9{t:TypeId}{z:List Value}(h:rt P t=some z):∃v,yF P t=some v∧v.cells.toList=z:=by
 unfold rt at h;cases hz:yF P t with
 |none=>rw[hz]at h;cases h
 |some v=>rw[hz]at h;simp only[bD.injEq]at h;exact⟨v,rfl,h⟩
theorem r9{t:TypeId}{v:Value}(h:yF P t=some v):∃i,P.info? t=some i∧i.zero=some v:=by
 unfold yF at h;cases hi:P.info? t with
 |none=>rw[hi]at h;cases h
 |some i=>rw[hi]at h;exact⟨i,rfl,h⟩
theorem Qt{A B:List Value}{x:Value}{m:Nat}(h:A.length=m):(A++x::B).take (m+1)=A++ [x]:=by
 subst h;rw[List.take_append,bj (by omega),show A.length+1-A.length=1 by omega];rfl
theorem Qw{A B:List Value}{x:Value}{m n:Nat}(h:A.length=m):(A++x::B).drop (m+1+n)=B.drop n:=by
 subst h;rw[List.drop_append,List.drop_eq_nil_of_le (by omega),show A.length+1+n-A.length=n+1 by omega];rfl
theorem Kr(off:Nat):∀(xs:List Value) (k:Nat) (arr:Array Value),off+k+xs.length≤arr.size→
  (xs.zipIdx k).foldl (fun cs (c,j)=>cs.setIfInBounds (off+j) c) arr=(JV arr.toList (off+k) xs).toArray
 | [],k,arr,_=>by simp[JV]
 |x::xs,k,arr,h=>by
  simp only[ao]at h;simp only[List.zipIdx_cons,List.foldl_cons];rw[Kr off xs (k+1) _ (by simp;omega)];have hm:off+k<arr.toList.length:=by simp;omega
  have b:arr.toList.set (off+k) x=arr.toList.take (off+k)++x::arr.toList.drop (off+k+1):=by
   rw[List.set_eq_take_append_cons_drop,if_pos hm]
  have a:(arr.toList.take (off+k)).length=off+k:=by simp;omega
  congr 1
  unfold JV;rw[Array.toList_setIfInBounds,b,←Nat.add_assoc,Qt a,Qw a];simp only[List.append_assoc,fy,List.nil_append,ao,List.drop_drop];rw[show off+k+1+xs.length=off+k+(xs.length+1) by omega]
theorem tM{a:Nat→Option (Nat×Nat)}:∀(parts:List (Nat×Value)) (cs cs':List Value),Ds a cs parts=some cs'→Instr.fill a cs.toArray parts=some cs'.toArray
 | [],cs,cs',h=>by simp only[Ds,bD.injEq]at h;subst h;rfl
 |(i,v)::rest,cs,cs',h=>by
  simp only[Ds]at h;cases hp:a i with
  |none=>rw[hp]at h;cases h
  |some os=>
   obtain⟨off,size⟩:=os;rw[hp]at h;simp only at h;cases hb:(bB v.cells.toList.length size&&yq (off+v.cells.toList.length) cs.length)with
   |false=>rw[hb]at h;cases h
   |true=>
    rw[hb]at h;simp only[aR]at hb;have g:=aQ hb.1;have b:=jd hb.2;have e:=tM rest _ _ h;have f:v.cells.size=size:=by simpa using g
    have c:off+v.cells.size≤cs.length:=by simpa using b
    have d:Array.foldl (fun cs x=>cs.setIfInBounds (off+x.2) x.1) cs.toArray v.cells.zipIdx=(JV cs off v.cells.toList).toArray:=by
     have:=Kr off v.cells.toList 0 cs.toArray (by simpa using c);simp only[iA]at this;rw[←this,←Array.foldl_toList];congr 1
     simp[Array.toList_zipIdx]
    simp only[Instr.fill,hp];rw[if_neg (by simp[f];omega)];simp only[d];exact e
theorem pl{N:Nat}{r:cA}{a:Act}(h:Agree N r a):∀{ps:List (Nat×Operand)} {vs:List (Nat×Value)},qJ r ps=some vs→ps.map (fun p=>(p.1,a.eval p.2))=vs
 | [],vs,hv=>by simp[qJ]at hv;subst hv;rfl
 |(i,o)::ps,vs,hv=>by
  simp only[qJ]at hv;cases ho:dd r o with
  |none=>simp[ho]at hv
  |some v=>cases hos:qJ r ps with
   |none=>simp[ho,hos]at hv
   |some us=>simp[ho,hos]at hv;subst hv;simp[kh h ho,pl h hos]
theorem qQ{t:TypeId}(h:yk P t=true)(w:World):(sizeOf t).run P w=.ok (bM P t) w:=by
 unfold yk at h;cases hi:P.info? t with
 |none=>rw[hi]at h;cases h
 |some i=>simp[sizeOf,cI hi,bM,hi]
theorem EV(w:World):∀l:List Field,AV P l=true→(l.mapM fun f:Field=>((do pure (f.offset,←sizeOf f.type)):Sem (Nat×Nat))).run P w=.ok (l.map fun f:Field=>(f.offset,bM P f.type)) w
 | [],_=>rfl
 |f::l,h=>by
  simp only[AV]at h;cases hf:yk P f.type with
  |false=>rw[hf]at h;cases h
  |true=>
   rw[hf]at h;rw[List.mapM_cons];simp only[Sem.run_bind,qQ hf,Result.andThen_ok,Sem.run_pure,EV w l h,bK]
theorem AU{t:TypeId}{ps:Array (Nat×Value)}{cs:List Value}(a:IP P t ps.toList=some cs)(w:World):
  (Instr.build t ps).run P w=.ok (.agg cs.toArray) w:=by
 unfold IP at a;split at a
 ·rename_i fs z hu c
  obtain⟨v,c,k⟩:=j9 c;cases ha:AV P fs.toList with
  |false=>rw[ha]at a;cases a
  |true=>
   rw[ha]at a;have j:(fs.mapM fun f:Field=>((do pure (f.offset,←sizeOf f.type)):Sem (Nat×Nat))).run P w=.ok (fs.map fun f:Field=>(f.offset,bM P f.type)) w:=by
    rw[Array.mapM_eq_mapM_toList];simp only[Sem.run_map,EV w fs.toList ha,Result.andThen_ok];congr 1
    apply cM;simp
   have g:=tM _ _ _ a;have b:(fun i:Nat=>(fs.map fun f:Field=>(f.offset,bM P f.type))[i]?)=LR P fs.toList:=by
    funext i;unfold LR;rw[Array.getElem?_map,aW];cases fs[i]?<;>rfl
   have d:v.cells=z.toArray:=by rw[←k]
   rw[cond_true]at a;rw[←b]at g;simp only[Instr.build,Sem.run_bind,eC c,Result.andThen_ok,aw hu,j,d,g,Sem.run_pure]
 ·rename_i n e z hu c
  obtain⟨v,c,k⟩:=j9 c;cases ha:yk P e with
  |false=>rw[ha]at a;cases a
  |true=>
   rw[ha]at a;have g:=tM _ _ _ a;have d:v.cells=z.toArray:=by rw[←k]
   simp only[Instr.build,Sem.run_bind,eC c,Result.andThen_ok,aw hu,qQ ha,d,g,Sem.run_pure]
 ·cases a
theorem B4{ek:Option (Kind×Kind)}{o:Oper}{r:cA}{K:RK}{h:ac}{N:Nat}{a:Act}(R:Agree N r a)(g:BJ P ek o.op r K h)(d:vG)(hd:DecOk d r):
  ∃v S,K v S∧Rd S h∧GB (Jl d o.op) v∧∀w:World,Rd S w.heap→(execOp a.eval o).run P w=.ok (.value v) w:=by
 have j:∀{x:Operand} {v:Value},dd r x=some v→a.eval x=v:=fun h=>kh R h
 have z:∀{s:Sem Value},Yv P s K h→Jl d o.op=.x→(∀w,(execOp a.eval o).run P w=(do pure (Next.value (←s)):Sem Next).run P w)→
   ∃v S,K v S∧Rd S h∧GB (Jl d o.op) v∧∀w:World,Rd S w.heap→(execOp a.eval o).run P w=.ok (.value v) w:=by
  rintro s ⟨v,S,q,C,A⟩ hx G;exact⟨v,S,q,C,by rw[hx];trivial,fun w D=>by rw[G w];exact jn (A w D)⟩
 obtain⟨T,O,type,pos,H,F⟩:=o;simp only at g z⊢;cases O with
 |move x=>
  simp only[BJ]at g;split at g
  ·rename_i v hv
   exact⟨v,none,g,trivial,ve hd hv,fun w _=>by simp[execOp,j hv]⟩
  ·exact g.elim
 |assign x=>
  simp only[BJ]at g;split at g
  ·rename_i v hv
   exact⟨v,none,g,trivial,ve hd hv,fun w _=>by simp[execOp,j hv]⟩
  ·exact g.elim
 |pick c x y=>
  simp only[BJ]at g;split at g
  ·rename_i vc va vb hc hx U
   unfold SK at g;split at g
   ·rename_i cb
    have L:=ve hd hc;have W:=ve hd hx;have hyo:=ve hd U;have G:∀w,(execOp a.eval ⟨T,.pick c x y,type,pos,H,F⟩).run P w=.ok (.value (if cb then va else vb)) w:=fun w=>by
     simp[execOp,j hc,j hx,j U,asBool]
    have I:GB (Jl d (.pick c x y)) (if cb then va else vb):=by
     simp only[Jl];cases hcd:AO d c with
     |t=>
      rw[hcd]at L;have:cb=true:=by simpa[GB]using L
      subst this;exact W
     |f=>
      rw[hcd]at L;have:cb=false:=by simpa[GB]using L
      subst this;exact hyo
     |u=>trivial
     |x=>trivial
    split at g
    ·rename_i bx by'
     have Q:(if cb=true then Value.bool bx else Value.bool by')=.bool (bif cb then bx else by'):=by cases cb<;>rfl
     rw[Q]at I;exact⟨_,none,g,trivial,I,fun w _=>by rw[G w,Q]⟩
    ·cases cb
     ·exact⟨_,none,g,trivial,I,fun w _=>G w⟩
     ·exact⟨_,none,g,trivial,I,fun w _=>G w⟩
   ·exact g.elim
  ·exact g.elim
 |load t x=>
  simp only[BJ]at g;split at g
  ·rename_i v hv
   obtain⟨u,S,q,C,A⟩:=Dh g;exact z ⟨u,some S,q,C,A⟩ rfl fun w=>by simp only[execOp,j hv]
  ·exact g.elim
 |nilCheck x=>
  simp only[BJ]at g;split at g
  ·rename_i p hv
   obtain⟨b,rfl,q⟩:=g;exact⟨_,none,q,trivial,trivial,fun w _=>by simp[execOp,j hv]⟩
  ·exact g.elim
 |binOp O t x y yt=>
  simp only[BJ]at g;split at g
  ·rename_i v u hv hu
   obtain⟨V,S,q,C,A⟩:=LO (x:=x) (y:=y) g;refine⟨V,S,q,C,trivial,fun w D=>?_⟩
   simp only[execOp,j hv,j hu];exact jn (A w D)
  ·rename_i v u hna hv hu
   have go:(∀c d,v=.agg c→u=.agg d→False)∧(v=.nilIface→u=.nilIface→False)∧Yv P (binOp O t v u) K h:=by
    split at g
    ·exact EY (neg:=false) g
    ·exact EY (neg:=true) g
    ·exact LN g
   obtain⟨h1,h2,V,S,q,C,A⟩:=go;refine⟨V,S,q,C,trivial,fun w D=>?_⟩
   simp only[execOp,j hv,j hu];simp[Mn O t x y v u h1 h2 w,A w D]
  ·exact g.elim
 |unOp O t x=>
  simp only[BJ]at g;split at g
  ·rename_i v hv
   obtain⟨u,S,q,C,A⟩:=Oa (P:=P) (h:=h) g;refine⟨u,S,q,C,?_,fun w D=>by simp only[execOp,j hv];exact jn (A w D)⟩
   have J:=ve hd hv;cases O<;>try trivial
   simp only[Jl];have B:=A {(default:World)with heap:=h} C;cases hx:AO d x with
   |t=>
    rw[hx]at J;have:v=.bool true:=J;subst this;simp[Op.unary]at B;exact B.symm
   |f=>
    rw[hx]at J;have:v=.bool false:=J;subst this;simp[Op.unary]at B;exact B.symm
   |u=>trivial
   |x=>trivial
  ·exact g.elim
 |convert s t x=>
  simp only[BJ]at g;split at g
  ·rename_i v hv
   exact z (JS g) rfl fun w=>by simp only[execOp,j hv]
  ·exact g.elim
 |extract x i=>
  simp only[BJ]at g;split at g
  ·rename_i vs hv
   split at g
   ·rename_i u hu
    have Y:vs[i]? =some u:=by simpa using hu
    exact⟨u,none,g,trivial,trivial,fun w _=>by simp[execOp,j hv,Instr.extract,Y]⟩
   ·exact g.elim
  ·exact g.elim
 |fieldAddr t x f=>
  simp only[BJ]at g;split at g
  ·rename_i b u off hv hf
   exact z (DU hf g) rfl fun w=>by simp only[execOp,j hv]
  ·exact g.elim
 |field t x f=>
  simp only[BJ]at g;split at g
  ·rename_i v hv
   exact z (Ia g) rfl fun w=>by simp only[execOp,j hv]
  ·exact g.elim
 |indexAddr t x i=>
  simp only[BJ]at g;split at g
  ·rename_i v u hv hu
   exact z (B5 g) rfl fun w=>by simp only[execOp,j hv,j hu]
  ·exact g.elim
 |index t x i=>
  simp only[BJ]at g;split at g
  ·rename_i v u hv hu
   exact z (H9 g) rfl fun w=>by simp only[execOp,j hv,j hu]
  ·exact g.elim
 |slice t x lo hi mx=>
  simp only[BJ]at g;split at g
  ·rename_i v l h' m hv hl hh hm
   have X:∀{x:Option Operand} {v:Option Value},G7 r x=some v→x.map a.eval=v:=by
    intro x v hx;cases x with
    |none=>simp[G7]at hx;subst hx;rfl
    |some x=>
     simp only[G7]at hx;cases G:dd r x with
     |none=>simp[G]at hx
     |some u=>simp[G]at hx;subst hx;simp[j G]
   exact z (H7 g) rfl fun w=>by simp only[execOp,j hv,X hl,X hh,X hm]
  ·exact g.elim
 |lookup t x k ok=>
  simp only[BJ]at g;split at g
  ·rename_i v u hv hu
   exact z (Gc g) rfl fun w=>by simp only[execOp,j hv,j hu]
  ·exact g.elim
 |makeInterface t x=>
  simp only[BJ]at g;split at g
  ·rename_i v hv
   cases hb:qK P t with
   |false=>rw[hb]at g;exact g.elim
   |true=>
    rw[hb,cond_true]at g;exact⟨_,none,g,trivial,trivial,fun w _=>by simp only[execOp,j hv];exact jn (AC hb w)⟩
  ·exact g.elim
 |typeAssert x u t ok=>
  simp only[BJ]at g;split at g
  ·rename_i v hv
   cases ok with
   |true=>exact g.elim
   |false=>
    rw[cond_false]at g;unfold Nh at g;cases hb:qK P t with
    |false=>rw[hb]at g;exact g.elim
    |true=>
     rw[hb,cond_true]at g;split at g
     ·obtain⟨y,rfl,q⟩:=g
      exact⟨_,none,q,trivial,trivial,fun w _=>by simp only[execOp,j hv];exact jn (Ev hb w)⟩
     ·exact g.elim
  ·exact g.elim
 |makeFunc fn first cap=>
  simp only[BJ]at g;split at g
  ·rename_i vs us hv hu
   have Q:=mA R hv;have e2:=mA R hu;refine⟨_,none,g,trivial,trivial,fun w _=>?_⟩
   have Z:first.map a.eval=vs.toArray:=by rw[←Q];apply cM;simp
   have f2:cap.map a.eval=us.toArray:=by rw[←e2];apply cM;simp
   simp[execOp,Instr.makeFunc,Z,f2]
  ·exact g.elim
 |entry it=>
  simp only[BJ]at g;split at g
  ·rename_i b kk vk hv
   obtain⟨h0,e,x,y,hi,q,U,hK⟩:=g;refine⟨_,_,hK,hi,trivial,fun w D=>?_⟩
   simp only[execOp,j hv];refine jn ?_;rw[OC h0 D,q,U]
  ·exact g.elim
 |call c=>
  simp only[BJ]at g;have E:∀{b:Builtin} {vs:List Value},c.callee=.builtin b→oy r c.args.toList=some vs→∃cs:Array Bool,∀w,(execOp a.eval ⟨T,.call c,type,pos,H,F⟩).run P w=
    (builtin b c.argTypes type cs vs.toArray).run P w:=by
   intro b vs hc n;have Q:=mA R n;have Z:c.args.map a.eval=vs.toArray:=by rw[←Q];apply cM;simp
   refine⟨c.args.map fun| .const _=>true|_=>false,fun w=>?_⟩
   simp[execOp,resolve,hc,Z,invoke];rfl
  split at g
  ·rename_i v t hc n hat
   obtain⟨cs,E⟩:=E hc n;obtain⟨u,S,q,C,A⟩:=LJ (ats:=c.argTypes) (ty:=type) (by rw[←aW,hat];rfl) g;exact⟨u,S,q,C,trivial,fun w D=>by rw[E w];simp only[builtin];exact jn (A w D)⟩
  ·rename_i v t hc n hat
   obtain⟨cs,E⟩:=E hc n;obtain⟨u,S,q,C,A⟩:=LM (h:=h) (ats:=c.argTypes) (ty:=type) (by rw[←aW,hat];rfl) g;exact⟨u,S,q,C,trivial,fun w D=>by rw[E w];simp only[builtin];exact jn (A w D)⟩
  ·rename_i vs hc n
   obtain⟨cs,E⟩:=E hc n;obtain⟨u,q,A⟩:=yP (P:=P) (ats:=c.argTypes) (ty:=type) g;exact⟨u,none,q,trivial,trivial,fun w _=>by rw[E w];simp only[builtin];exact jn (A w)⟩
  ·rename_i vs hc n
   obtain⟨cs,E⟩:=E hc n;obtain⟨u,q,A⟩:=yP (P:=P) (ats:=c.argTypes) (ty:=type) g;exact⟨u,none,q,trivial,trivial,fun w _=>by rw[E w];simp only[builtin];exact jn (A w)⟩
  ·exact g.elim
 |build t ps=>
  simp only[BJ]at g;split at g
  ·rename_i vs n
   split at g
   ·rename_i cs hcs
    refine⟨_,none,g,trivial,trivial,fun w _=>?_⟩
    have hp:(ps.map fun x=>(x.1,a.eval x.2))=vs.toArray:=by
     rw[←pl R n];apply cM;simp
    have G:=AU (ps:=vs.toArray) (by simpa using hcs) w;simp only[execOp];rw[show(ps.map fun(i,x)=>(i,a.eval x))=vs.toArray from hp]
    exact jn G
   ·exact g.elim
  ·exact g.elim
 |_=>simp only[BJ]at g
end Go.Lift
namespace Go.Lift
open Go
variable {P:Program}
def KH(P:Program)(s:Sem Next)(K:WK)(w:World):Prop:=
 (∃v a,s.run P w=.ok (.value v) a∧Tame w a∧K v a.heap)∨
 (∃a,s.run P w=.ok .skip a∧Tame w a∧K undef a.heap)∨
 (∃f args,s.run P w=.ok (.enter f args) w∧Calls P f args w fun e a=>Tame w a∧∃v,e=.returned v∧K v a.heap)∨
 (∃l fn tmps assign body,s.run P w=.ok (.round l fn tmps assign body) w∧
  ∀(c:Frame) (cs:List Frame),∃b a,Tame w a∧K (.bool b) a.heap∧Steps P (lone (Frame.round l fn tmps assign body .normal) (c::cs) w) (lone (c.finish (.bool b)) cs a))
def Wv(P:Program)(s:Sem Value)(K:WK)(w:World):Prop:=∃v w',s.run P w=.ok v w'∧Tame w w'∧K v w'.heap
theorem Wv.out{s:Sem Value}{K:WK}{w:World}(h:Wv P s K w):KH P (do pure (Next.value (←s))) K w:=by
 obtain⟨v,c,b,d,a⟩:=h;exact .inl ⟨v,c,jn b,d,a⟩
def Wu(P:Program)(s:Sem Unit)(K:WK)(w:World):Prop:=∃w',s.run P w=.ok () w'∧Tame w w'∧K undef w'.heap
theorem Wu.out{s:Sem Unit}{K:WK}{w:World}(h:Wu P s K w):KH P (do s;pure Next.skip) K w:=by
 obtain⟨c,b,d,a⟩:=h;exact .inr (.inl ⟨c,PL b,d,a⟩)
def ke(w:World)(h:ac):World:={w with heap:=h}
theorem eA(w:World)(h:ac):Tame w (ke w h):=⟨rfl,rfl,rfl⟩
theorem kw(e:TypeId)(cs:Array Value)(w:World):(newRow e cs).run P w=.ok (aO w.heap) (ke w (hnew w.heap cs.toList e)):=by
 simp[newRow,newObj,Sem.run,aO,ke,hnew,bind,Sem.bind,pure]
theorem EO(o:Obj)(w:World):(newObj o).run P w=.ok w.heap.size (ke w (w.heap.push o)):=rfl
theorem Gj{h:ac}{a b:Addr}(v:Value)(c:a≠b):aI (hset h a v) b=aI h b:=
 World.cell?_setCell_other {(default:World)with heap:=h} a b v c
theorem DS{h:ac}{a:Addr}{u:Value}(v:Value)(hc:aI h a=some u):aI (hset h a v) a=some v:=
 World.cell?_setCell_same {(default:World)with heap:=h} a v hc
theorem Ix{h:ac}{a b:Addr}(v:Value):Eg (hset h a v) b=Eg h b:=
 World.frozen?_setCell {(default:World)with heap:=h} a b v
theorem Wr.hset{h:ac}{a b:Addr}(v:Value)(d:Wr h b):Wr (hset h a v) b:=by
 obtain⟨⟨u,c⟩,f⟩:=d;refine⟨?_,by rw[Ix];exact f⟩
 by_cases e:a=b
 ·subst e;exact⟨v,DS v c⟩
 ·exact⟨u,by rw[Gj v e];exact c⟩
theorem LD{w:World}{a:Addr}{v:Value}(g:∀cs,v≠ .agg cs)(c:∀cs,v≠ .tuple cs)(e:Wr w.heap a):(store a v).run P w=.ok () (ke w (hset w.heap a v)):=by
 obtain⟨⟨u,i⟩,f⟩:=e;have b:w.cell? a=some u:=i;have d:w.frozen? a=false:=f;cases v<;>first|exact absurd rfl (g _)|exact absurd rfl (c _)|(simp only[store,Sem.run,b,d];rfl)
theorem Ik{v:Value}{vs:List Value}(h:ce (v::vs)=true):(∀cs,v≠ .agg cs)∧(∀cs,v≠ .tuple cs)∧ce vs=true:=by
 simp only[ce,aR]at h;refine⟨fun cs e=>?_,fun cs e=>?_,h.2⟩<;>(subst e;exact absurd h.1 (by simp))
theorem sB{a:Addr}:∀(vs:List Value) (i:Nat) (w:World),ce vs=true→(∀j,j<vs.length→Wr w.heap (adr a (i+j)))→
  (storeCells a vs i).run P w=.ok () (ke w (hH w.heap a i vs))
 | [],i,w,_,_=>rfl
 |v::vs,i,w,b,hw=>by
  obtain⟨e,f,b⟩:=Ik b;have c:=hw 0 (by simp);simp only[iA]at c;have d:a.add i=adr a i:=(uP a i).symm;simp only[storeCells,d,Sem.run_bind,LD e f c,Result.andThen_ok];rw[sB vs (i+1) (ke w (hset w.heap (adr a i) v)) b fun j g=>?_]
  ·rfl
  ·have:=hw (j+1) (by simp only[ao];omega)
   rw[show i+1+j=i+(j+1) by omega]
   exact this.hset v
theorem Hn{a:Addr}(m:Nat):∀(vs:List Value) (i:Nat) (h:ac),hH h (adr a m) i vs=hH h a (m+i) vs
 | [],_,_=>rfl
 |v::vs,i,h=>by
  simp only[hH];rw[Hn m vs (i+1),AY];rfl
theorem HP{t:TypeId}{a v:Value}{K:WK}{w:World}(c:Lj P t a v K w.heap):Wu P (Instr.storeAt t a v) K w:=by
 unfold Lj at c;split at c
 ·rename_i a
  cases hb:(bB v.cells.toList.length (bM P t)&&ce v.cells.toList)with
  |false=>rw[hb]at c;exact c.elim
  |true=>
   rw[hb]at c;simp only[aR]at hb;have o:=aQ hb.1;obtain⟨c,n⟩:=qa c;have i:v.cells.size=bM P t:=by simpa using o
   have m:(∀j,j<v.cells.toList.length→Wr w.heap (adr a (0+j)))→(Instr.storeAt t (.pointer (some a)) v).run P w=.ok () (ke w (hH w.heap a 0 v.cells.toList)):=by
    intro d;have:=sB (P:=P) v.cells.toList 0 w hb.2 d;simp[Instr.storeAt,Instr.sureAddr,storeVar,n,i,this]
   split at c
   ·rename_i u hu
    obtain⟨d,g⟩:=c;refine⟨_,m (fun j f=>?_),eA _ _,?_⟩
    ·rw[hu]at f;simp only[ao,List.length_nil]at f
     obtain rfl:j=0:=by omega
     exact d
    ·rw[hu];exact g
   ·obtain⟨d,g⟩:=c
    refine⟨_,m (fun j f=>?_),eA _ _,g⟩
    rcases d with e|⟨b,k,d⟩
    ·rw[e]at f;cases f
    ·cases k;exact d j f
 ·exact c.elim
theorem jQ(z:Array Value)(n:Nat):(Builtin.zeroCells z n).toList=dq n z.toList:=by
 have key:∀n,(List.range (n*z.size)).map (fun i=>z[i%z.size]!)=(fR n z.toList).flatten:=by
  intro n;induction n with
  |zero=>simp
  |succ n ih=>
   rw[Nat.succ_mul,List.range_add,List.map_append,ih,List.replicate_succ',List.flatten_append];congr 1
   simp only[iE,List.flatten_cons,List.flatten_nil,List.append_nil];apply List.ext_getElem
   ·simp
   ·intro i a b
    simp only[List.length_map,List.length_range]at a;simp[Nat.mod_eq_of_lt a,a,Nat.add_mod]
 simpa[Builtin.zeroCells,dq]using key n
theorem dy{t e:TypeId}(h:wM P t=some e):P.underlying t=some (.slice e):=by
 unfold wM at h;split at h
 ·rename_i e' hu;simp only[bD.injEq]at h;subst h;exact hu
 ·cases h
theorem MY{z:Value}{n:Nat}:((Array.range (n*z.cells.size)).map (z.cells[· %z.cells.size]!))=(dq n z.cells.toList).toArray:=by
 have:=jQ z.cells n;unfold Builtin.zeroCells at this;apply cM;rw[this]
theorem Cs{t e:TypeId}{n:Nat}{ps:Array (Nat×Value)}{z cs:List Value}(q:wM P t=some e)(m:rt P e=some z)(u:n*bM P e≤16777216)(j:z.length=bM P e)
  (s:Ds (fun i=>some (i*bM P e,bM P e)) (dq n z) ps.toList=some cs)(w:World):
  (Instr.buildSlice t n ps).run P w=.ok (.slice (some (aO w.heap)) n n) (ke w (hnew w.heap cs e)):=by
 obtain⟨v,k,c⟩:=j9 m;obtain⟨i,hi,o⟩:=r9 k;have p:(sizeOf e).run P w=.ok (bM P e) w:=by simp[sizeOf,cI hi,bM,hi]
 have f:v.cells.size=bM P e:=by rw[←j,←c];simp
 have g:=tM _ _ _ s;have a:((Array.range (n*bM P e)).map (fun i=>(if n*bM P e=0 then #[]else v.cells)[i%(if n*bM P e=0 then #[]else v.cells).size]!))=(dq n z).toArray:=by
  by_cases b:n*bM P e=0
  ·have:(dq n z).length=0:=by simp[dq,j,b]
   rw[aE.1 this];simp[b]
  ·simp only[if_neg b]
   rw[←f,MY,c]
 have d:¬(n*bM P e>2^24):=by omega
 simp only[Instr.buildSlice,Sem.run_bind,aw (dy q),Result.andThen_ok,p,if_neg d];by_cases b:n*bM P e=0
 ·simp only[if_pos b]at a
  simp only[if_pos b,Sem.run_bind,Sem.run_pure,Result.andThen_ok,a,g,kw]
 ·simp only[if_neg b]at a
  simp only[if_neg b,Sem.run_bind,Sem.run_pure,Result.andThen_ok,eC k,a,g,kw]
theorem N5{h:ac}{a:Addr}{vs:List Value}(c:Row h a vs):∀j v,vs[j]? =some v→aI h (a.add j)=some v:=fun j v b=>by
 rw[←uP];exact c j v b
theorem ya{size n cap len:Nat}{b:Option Addr}{vs:List Value}{w:World}(e:SRow w.heap b (n*size) vs):(Builtin.firstCells size n (.slice b len cap)).run P w=.ok vs.toArray w:=by
 obtain⟨d,a⟩:=e;cases b with
 |none=>
  rcases a with rfl|⟨_,h,_⟩
  ·simp[Builtin.firstCells]
  ·cases h
 |some b=>
  refine run_firstCells_some w size n b len cap vs d fun j v c=>?_
  rcases a with rfl|⟨_,h,a⟩
  ·cases c
  ·cases h;exact N5 a j v c
theorem EH{a:Addr}{m:Nat}{xs:List Value}{w:World}(f:ce xs=true)(c:sw w.heap (some a) m xs):
  (storeCells (a.add m) xs).run P w=.ok () (ke w (hH w.heap a m xs)):=by
 rcases c with rfl|⟨b,e,c⟩
 ·rfl
 ·cases e
  have:=sB (P:=P) (a:=adr a m) xs 0 w f fun j d=>by rw[AY,aH];exact c j d
  rw[←uP,this,Hn,iA]
set_option maxHeartbeats 1000000 in
theorem FE{t e u ty:TypeId}{b:Option Addr}{sl f c:Nat}{xs:List Value}{x:Value}{K:WK}{w:World}(y:wM P t=some e)(k:(∃s,P.underlying u=some (.slice s))∨P.underlying u=some .string)
  (g:∀w,(Builtin.lenOf x).run P w=.ok c w)(hx:∀w':World,w'.heap=w.heap→(Builtin.firstCells (bM P e) c x).run P w'=.ok xs.toArray w')
  (hi:∃i,P.info? e=some i)
  (h:QR P e b sl f c xs K w.heap):Wv P (Builtin.append_ #[t,u] ty #[.slice b sl f,x]) K w:=by
 obtain⟨i,hi⟩:=hi;have j:bM P e=i.size:=by simp[bM,hi]
 have G:rG P e=i.bytes:=by simp[rG,hi]
 by_cases hc:sl+c≤f
 ·obtain⟨I,J,D⟩:=h.1 hc
  refine⟨_,_,?_,eA w (fc w.heap b (sl*bM P e) xs),D⟩;cases b with
  |none=>
   have d:=hx w rfl;rw[j]at d;rcases k with⟨s,hd⟩|hd<;>(simp[Builtin.append_,aw (dy y),aw hd,sizeOf,cI hi,g,hc,d];rfl)
  |some a=>
   have n:=EH (P:=P) J I;have d:=hx w rfl;rw[j]at n d;rcases k with⟨s,hd⟩|hd<;>(simp[Builtin.append_,aw (dy y),aw hd,sizeOf,cI hi,g,hc,d,n,fc,j])
 ·obtain⟨old,z,L,O,B,C,D⟩:=h.2 (by omega)
  obtain⟨v,H,A⟩:=j9 O;obtain⟨Q,m,N⟩:=r9 H;rw[hi]at m;cases m;rw[G]at B C;have o:¬i.bytes=0:=by omega
  have q:¬(281474976710656<Builtin.nextslicecap (sl+c) f*i.bytes):=by omega
  have d:=hx w.drew rfl;have p:(Builtin.firstCells (bM P e) sl (.slice b sl f)).run P w.drew=.ok old.toArray w.drew:=ya L;rw[j]at d p;have E:sl+c≤(Question.appendCap (sl+c) f e).cut (w.tape w.drawn (.appendCap (sl+c) f e)):=qr _ _;refine⟨_,ke w.drew (hnew w.heap (old++xs++dq ((Question.appendCap (sl+c) f e).cut (w.tape w.drawn (.appendCap (sl+c) f e))-(sl+c)) z) e),?_,⟨rfl,rfl,rfl⟩,D _ E⟩
  have F:(Builtin.zeroCells v.cells ((Question.appendCap (sl+c) f e).cut (w.tape w.drawn (.appendCap (sl+c) f e))-(sl+c)))=(dq ((Question.appendCap (sl+c) f e).cut (w.tape w.drawn (.appendCap (sl+c) f e))-(sl+c)) z).toArray:=by
   apply cM;rw[jQ,A]
  rcases k with⟨s,hd⟩|hd<;>(simp[Builtin.append_,aw (dy y),aw hd,sizeOf,cI hi,g,hc,o,q,Question.forced,d,p,eC H,kw,F,aO];rfl)
theorem E7{t:TypeId}{K:Prop}(h:PW P t K):∃i,P.info? t=some i:=by
 unfold PW at h;cases hi:P.info? t with
 |none=>rw[hi]at h;exact h.elim
 |some i=>exact⟨i,rfl⟩
theorem AI{t:TypeId}(h:bM P t≠0):∃i,P.info? t=some i:=by
 cases hi:P.info? t with
 |none=>exact absurd (by simp[bM,hi]) h
 |some i=>exact⟨i,rfl⟩
theorem Dv{size n:Nat}{x:ByteArray}{w:World}:(Builtin.firstCells size n (.string x)).run P w=.ok ((dN x).take n).toArray w:=by
 simp only[Builtin.firstCells,Sem.run_pure];congr 1
 apply cM;simp[dN,pW,gi,←List.map_take]
theorem yI{t u ty:TypeId}{s x:Value}{K:WK}{w:World}(c:(∃e',P.underlying u=some (.slice e'))∨P.underlying u=some .string)(h:D7 P t s x K w.heap):
  Wv P (Builtin.append_ #[t,u] ty #[s,x]) K w:=by
 unfold D7 at h;split at h
 ·rename_i e b sl sc a xl xc ht
  have hi:=E7 h;obtain⟨⟨xs,d,i⟩,j⟩:=qa h;exact FE ht c (fun w=>rfl) (fun g f=>ya (by rw[f];exact d)) hi i
 ·rename_i e b sl sc x ht
  cases hb:bB (bM P e) 1 with
  |false=>rw[hb]at h;exact h.elim
  |true=>
   rw[hb]at h;have m:=aQ hb;have k:(dN x).length=x.size:=by simp[dN]
   refine FE ht c (fun w=>rfl) (fun g _=>?_) (AI (by omega)) h
   rw[Dv,bj (by omega)]
 ·exact h.elim
theorem BK{n:Int}(b:0≤n)(a:n≤9223372036854775807):IntKind.i64.wrap n=n:=IntWalk.i64_in n ⟨by omega,a⟩
theorem MC{t e u ty:TypeId}{b:Option Addr}{sl f:Nat}{k0 k:IntKind}{l:Int}{z:List Value}{K:WK}{w:World}(y:wM P t=some e)(A:P.underlying u=some (.int k0))
  (V:rt P e=some z)(O:z.length=bM P e)(W:0≤l)(L:l*rG P e≤2^48)(Z:l≤9223372036854775807)(h3:((sl+l.toNat:Nat):Int)≤9223372036854775807)
  (h:QR P e b sl f l.toNat (dq l.toNat z) K w.heap):Wv P (Builtin.append_ #[t,u] ty #[.slice b sl f,.int k l]) K w:=by
 obtain⟨v,D,B⟩:=j9 V;obtain⟨i,hi,Y⟩:=r9 D;have j:bM P e=i.size:=by simp[bM,hi]
 have G:rG P e=i.bytes:=by simp[rG,hi]
 have x:IntKind.wrap .i64 l=l:=BK W Z;have c:¬l<0:=by omega
 rw[G]at L;have d:¬(281474976710656:Int)<l*i.bytes:=by omega
 have g:∀N:World,(asInt (.int k l)).run P N=.ok l N:=fun N=>rfl
 have H:(Builtin.zeroCells v.cells l.toNat)=(dq l.toNat z).toArray:=by apply cM;rw[jQ,B]
 have s:l.toNat*i.size=0→dq l.toNat z= []:=fun J=>by
  have C:(dq l.toNat z).length=l.toNat*i.size:=by rw[←j,←O];unfold dq;simp
  exact aE.1 (by rw[C,J])
 by_cases hc:sl+l.toNat≤f
 ·obtain⟨Q,L,I⟩:=h.1 hc
  refine⟨_,_,?_,eA w (fc w.heap b (sl*bM P e) (dq l.toNat z)),I⟩;cases b with
  |none=>
   by_cases m:l.toNat*i.size=0
   ·simp[Builtin.append_,aw (dy y),aw A,sizeOf,cI hi,g,x,c,d,hc,m];rfl
   ·simp[Builtin.append_,aw (dy y),aw A,sizeOf,cI hi,g,x,c,d,hc,eC D];rfl
  |some a=>
   have n:=EH (P:=P) L Q;rw[j]at n;by_cases m:l.toNat*i.size=0
   ·rw[s m]at n
    simp[Builtin.append_,aw (dy y),aw A,sizeOf,cI hi,g,x,c,d,hc,n,fc,j,m,s m]
   ·simp[Builtin.append_,aw (dy y),aw A,sizeOf,cI hi,g,x,c,d,hc,n,fc,j,m,eC D,H]
 ·obtain⟨old,z',X,E,R,S,I⟩:=h.2 (by omega)
  rw[V]at E;cases E;rw[G]at R S;have U:¬i.bytes=0:=by omega
  have o:¬(281474976710656<Builtin.nextslicecap (sl+l.toNat) f*i.bytes):=by omega
  have h3':¬(9223372036854775807:Int)<((sl:Int)+(l.toNat:Int)):=by omega
  have p:¬(9223372036854775807:Int)<((sl:Int)+max l 0):=by omega
  have q:(Builtin.firstCells (bM P e) sl (.slice b sl f)).run P w.drew=.ok old.toArray w.drew:=ya X;rw[j]at q;have T:sl+l.toNat≤(Question.appendCap (sl+l.toNat) f e).cut (w.tape w.drawn (.appendCap (sl+l.toNat) f e)):=qr _ _;refine⟨_,ke w.drew (hnew w.heap (old++dq l.toNat z++dq ((Question.appendCap (sl+l.toNat) f e).cut (w.tape w.drawn (.appendCap (sl+l.toNat) f e))-(sl+l.toNat)) z) e),?_,⟨rfl,rfl,rfl⟩,I _ T⟩
  have F:(Builtin.zeroCells v.cells ((Question.appendCap (sl+l.toNat) f e).cut (w.tape w.drawn (.appendCap (sl+l.toNat) f e))-(sl+l.toNat)))=(dq ((Question.appendCap (sl+l.toNat) f e).cut (w.tape w.drawn (.appendCap (sl+l.toNat) f e))-(sl+l.toNat)) z).toArray:=by
   apply cM;rw[jQ,B]
  by_cases m:l.toNat*i.size=0
  ·rw[s m]at I⊢
   simp[Builtin.append_,aw (dy y),aw A,sizeOf,cI hi,g,x,c,d,hc,p,o,Question.forced,q,eC D,kw,F,aO,m];rfl
  ·simp[Builtin.append_,aw (dy y),aw A,sizeOf,cI hi,g,x,c,d,hc,p,o,Question.forced,q,eC D,kw,F,aO,m,H];rfl
theorem Er{t u ty:TypeId}{k0:IntKind}{s x:Value}{K:WK}{w:World}(f:P.underlying u=some (.int k0))(h:Es P t s x K w.heap):
  Wv P (Builtin.append_ #[t,u] ty #[s,x]) K w:=by
 unfold Es at h;split at h
 ·rename_i e b sl sc k l ht
  split at h
  ·rename_i z hz
   cases hb:bB z.length (bM P e)with
   |false=>rw[hb]at h;exact h.elim
   |true=>
    rw[hb]at h;obtain⟨⟨d,i,a,g⟩,c⟩:=h;exact MC ht f hz (aQ hb) d i a g c
  ·exact h.elim
 ·exact h.elim
theorem pm:∀{a b:List Value},ce a=true→ce b=true→ce (a++b)=true
 | [],_,_,h=>h
 |v::a,b,h,k=>by
  simp only[ce,fy,aR]at h⊢;exact⟨h.1,pm h.2 k⟩
theorem Av{z:List Value}(h:ce z=true):∀n,ce (dq n z)=true
 |0=>rfl
 |n+1=>by
  have:dq (n+1) z=z++dq n z:=by simp[dq,List.replicate_succ]
  rw[this];exact pm h (Av h n)
theorem HQ{t ty:TypeId}{x:Value}{K:WK}{w:World}(h:Lk P t x K w.heap):Wv P (Builtin.clear_ #[t] ty #[x]) K w:=by
 unfold Lk at h;split at h
 ·rename_i e a n c ht
  split at h
  ·rename_i z hz
   obtain⟨v,j,f⟩:=j9 hz;cases ho:ce z with
   |false=>rw[ho]at h;exact h.elim
   |true=>
    rw[ho]at h;obtain⟨g,i⟩:=h;refine⟨_,_,?_,eA w (fc w.heap a 0 (dq n z)),i⟩;cases a with
    |none=>simp[Builtin.clear_,aw (dy ht)];rfl
    |some a=>
     cases n with
     |zero=>simp[Builtin.clear_,aw (dy ht)];rfl
     |succ n=>
      have b:=EH (P:=P) (Av ho (n+1)) g;rw[←uP,FG]at b;have d:(Builtin.zeroCells v.cells (n+1)).toList=dq (n+1) z:=by rw[jQ,f]
      simp[Builtin.clear_,aw (dy ht),eC j,d,b,fc]
  ·exact h.elim
 ·exact h.elim
theorem Aw:∀(xs:List Value) (n:Nat),ce xs=true→ce (xs.take n)=true
 | [],n,_=>by simp[ce]
 |x::xs,0,_=>by simp[ce]
 |x::xs,n+1,h=>by
  simp only[ce,aR,List.take_succ_cons]at h⊢;exact⟨h.1,Aw xs n h.2⟩
theorem Gf(x:ByteArray):ce (dN x)=true:=by
 have:∀l:List UInt8,ce (l.map fun b=>.int .u8 (b.toNat:Int))=true:=by
  intro l;induction l with
  |nil=>rfl
  |cons b l ih=>simp[ce,ih]
 exact this _
theorem Jr{t u ty:TypeId}{d s:Value}{K:WK}{w:World}(h:Pn P t d s K w.heap):Wv P (Builtin.copy_ #[t,u] ty #[d,s]) K w:=by
 unfold Pn at h;split at h
 ·rename_i e b dl dc a sl sc ht
  obtain⟨⟨xs,o,k,p,n⟩,g⟩:=qa h;refine⟨_,_,?_,eA w (fc w.heap b 0 xs),n⟩;have j:=ya (P:=P) (len:=sl) (cap:=sc) o;cases b with
  |none=>simp[Builtin.copy_,aw (dy ht),Builtin.lenOf,g,j,goInt];rfl
  |some c=>
   have f:=EH (P:=P) (m:=0) p k;simp only[Addr.add,if_pos]at f;simp[Builtin.copy_,aw (dy ht),Builtin.lenOf,g,j,goInt,f,fc]
 ·rename_i e b dl dc x ht
  cases hb:bB (bM P e) 1 with
  |false=>rw[hb]at h;exact h.elim
  |true=>
   rw[hb]at h;have p:=aQ hb;obtain⟨i,hi⟩:=AI (P:=P) (t:=e) (by omega);have g:(sizeOf e).run P w=.ok (bM P e) w:=by simp[sizeOf,cI hi,bM,hi]
   obtain⟨k,n⟩:=h;have v:(dN x).length=x.size:=by simp[dN]
   have q:(dN x).take (dD x.size dl)=(dN x).take dl:=by
    by_cases hx:x.size≤dl
    ·rw[show dD x.size dl=x.size from Nat.min_eq_left hx,bj (by omega),bj (by omega)]
    ·rw[show dD x.size dl=dl from Nat.min_eq_right (by omega)]
   have j:(Builtin.firstCells (bM P e) (dD x.size dl) (.string x)).run P w=.ok ((dN x).take dl).toArray w:=by
    rw[Dv,q]
   refine⟨_,_,?_,eA w (fc w.heap b 0 ((dN x).take dl)),n⟩;cases b with
   |none=>simp[Builtin.copy_,aw (dy ht),Builtin.lenOf,g,j,goInt];rfl
   |some c=>
    have f:=EH (P:=P) (m:=0) (Aw _ dl (Gf x)) k;simp only[Addr.add,if_pos]at f;simp[Builtin.copy_,aw (dy ht),Builtin.lenOf,g,j,goInt,f,fc]
 ·exact h.elim
theorem Ni(k v:Value)(a:Nat):∀(es:List MapEntry),(match es.findIdx? (fun e=>fG k e.key)with
  |some i=>(es.modify i (fun e=>{e with key:=k,val:=v}),a)
  |none=>(es++ [{key:=k,val:=v,born:=a}],a+1))=Ib k v a es
 | []=>rfl
 |e::es=>by
  have b:=Ni k v a es;simp only[Ib,List.findIdx?_cons];cases hk:fG k e.key with
  |true=>simp[List.modify]
  |false=>
   simp only[df,if_false];rw[←b];cases hf:es.findIdx? (fun e=>fG k e.key)with
   |none=>simp
   |some i=>simp[List.modify]
theorem xB{d:TypeDesc}{c:CK}(hd:pD d c)(x:c.den):∀(es:List MapEntry) (i:Nat),keysOf c es→
  Instr.findNow d (c.enc x) es i=some (match es.findIdx? (fun e=>fG (c.enc x) e.key)with
   |some j=>(es[j]?).map fun e=>(i+j,e.val)
   |none=>none)
 | [],i,_=>rfl
 |e::es,i,h=>by
  obtain⟨y,f⟩:=h e (by simp);have b:=Dc hd x y;rw[←f]at b;have k:=xB hd x es (i+1) fun g a=>h g (by simp[a])
  simp only[Instr.findNow,List.findIdx?_cons,b];cases hb:fG (c.enc x) e.key with
  |true=>simp
  |false=>
   simp only[df,if_false];rw[k];cases hf:es.findIdx? (fun e=>fG (c.enc x) e.key)with
   |none=>simp
   |some j=>simp[Nat.add_assoc,Nat.add_comm 1 j]
theorem wN{a b:ByteArray}(h:(a==b)=true):a=b:=by
 cases a with|mk a=>cases b with|mk b=>
 have h:(a==b)=true:=h;rw[eq_of_beq h]
theorem xO(a:ByteArray):(a==a)=true:=by
 cases a with|mk a=>
 exact beq_self_eq_true a
theorem H4{d:TypeDesc}{c:CK}(hd:pD d c)(x y:c.den)(h:fG (c.enc x) (c.enc y)=true):Instr.sameBits 10000 (c.enc y) (c.enc x)=true:=by
 rcases hd with⟨i,rfl,rfl⟩|⟨rfl,rfl⟩|⟨rfl,rfl⟩
 ·have h:x=y:=eq_of_beq (α:=Int) h
  subst h;have:∀n:Int,(i==i&&n==n)=true:=fun n=>by simp
  exact this x
 ·have h:x=y:=wN h
  subst h;exact xO x
 ·have h:x=y:=eq_of_beq (α:=Bool) h
  subst h;exact beq_self_eq_true (α:=Bool) x
theorem vQ{w:World}{r:Nat}{es:Array MapEntry}{a:Nat}{o:Obj}(h:w.heap[r]? =some (.map es a)):(setObj r o).run P w=.ok () (ke w (w.heap.setIfInBounds r o)):=by
 simp only[setObj,Sem.run,h];rfl
theorem L2{t k e:TypeId}{d:TypeDesc}{c:CK}(A:P.underlying t=some (.map k e))(p:P.underlying k=some d)(hd:pD d c){r:Nat}{x:c.den}{v:Value}{w:World}(hm:wP c w.heap r):
  (Instr.mapUpdate t (.map (some r)) (c.enc x) v).run P w=.ok () (ke w (oz w.heap r (c.enc x) v)):=by
 obtain⟨es,a,j,f⟩:=hm;obtain⟨q,B,b,C⟩:=wd (P:=P) hd p x f w;rw[xB hd x es.toList 0 f]at b;have g:=Ni (c.enc x) v a es.toList;have m:oz w.heap r (c.enc x) v=w.heap.setIfInBounds r (.map (Ib (c.enc x) v a es.toList).1.toArray (Ib (c.enc x) v a es.toList).2):=by
  simp only[oz,j]
 rw[m,←g];simp only[Instr.mapUpdate,Sem.run_bind,aw A,Result.andThen_ok,l9 j,nR hd p,B];cases hf:es.toList.findIdx? (fun e=>fG (c.enc x) e.key)with
 |none=>
  rw[hf]at b;simp only[bD.injEq]at b;subst b;simp only[vQ j];congr 4
  apply cM;simp
 |some i=>
  rw[hf]at b;simp only[bD.injEq]at b;obtain⟨hi,s,_⟩:=List.findIdx?_eq_some_iff_getElem.1 hf;have u:es.toList[i]? =some es.toList[i]:=aj hi;rw[u]at b;simp only[ot,aH]at b;subst b;have o:es[i]? =some es.toList[i]:=by rw[←aW];exact u
  obtain⟨y,z⟩:=f es.toList[i] (List.getElem_mem hi);have n:Instr.sameBits 10000 (es.toList[i]).key (c.enc x)=true:=by
   rw[z]at s⊢;exact H4 hd x y s
  simp only[o,ot,Option.getD_some,Instr.keyThatStays,n,if_true,Sem.run_bind,Sem.run_pure,Result.andThen_ok,vQ j];congr 4
  apply cM;simp
theorem yH{t:TypeId}{m k v:Value}{K:WK}{w:World}(h:D6 P t m k v K w.heap):Wu P (Instr.mapUpdate t m k v) K w:=by
 unfold D6 at h;split at h
 ·rename_i c e m hc
  obtain⟨i,d,b,a,hd⟩:=xw hc;obtain⟨g,rfl,r,rfl,hm,f⟩:=CK.dec_sound h;exact⟨_,L2 b a hd hm,eA _ _,f⟩
 ·exact h.elim
theorem Ku(k:Value):∀(es:List MapEntry),(match es.findIdx? (fun e=>fG k e.key)with
  |some i=>es.eraseIdx i
  |none=>es)=Fp k es
 | []=>rfl
 |e::es=>by
  have a:=Ku k es;simp only[Fp,List.findIdx?_cons];cases hk:fG k e.key with
  |true=>simp
  |false=>
   simp only[df,if_false];rw[←a];cases hf:es.findIdx? (fun e=>fG k e.key)<;>simp
theorem Kg{t k e ty:TypeId}{ts:Array TypeId}{d:TypeDesc}{c:CK}(s:ts[0]? =some t) (u:P.underlying t=some (.map k e)) (p:P.underlying k=some d) (hd:pD d c) {r:Nat} {x:c.den} {w:World} (hm:wP c w.heap r):
  (Builtin.delete_ ts ty #[.map (some r),c.enc x]).run P w=.ok (.tuple #[]) (ke w (wL w.heap r (c.enc x))):=by
 obtain⟨es,f,m,j⟩:=hm;obtain⟨q,y,a,A⟩:=wd (P:=P) hd p x j w;rw[xB hd x es.toList 0 j]at a;have g:=Ku (c.enc x) es.toList;have n:wL w.heap r (c.enc x)=w.heap.setIfInBounds r (.map (Fp (c.enc x) es.toList).toArray f):=by
  simp only[wL,m]
 rw[n,←g];simp only[Builtin.delete_,s,List.getElem?_toArray,List.getElem?_cons_zero,List.getElem?_cons_succ,Sem.run_bind,aw u,Result.andThen_ok,l9 m,nR hd p,y];cases hf:es.toList.findIdx? (fun e=>fG (c.enc x) e.key)with
 |none=>
  rw[hf]at a;simp only[bD.injEq]at a;subst a;simp[vQ m]
 |some i=>
  rw[hf]at a;simp only[bD.injEq]at a;obtain⟨hi,z,_⟩:=List.findIdx?_eq_some_iff_getElem.1 hf;have v:es.toList[i]? =some es.toList[i]:=aj hi;rw[v]at a;simp only[ot,aH]at a;subst a;have o:i<es.size:=by simpa using hi
  have b:es.eraseIdxIfInBounds i=(es.toList.eraseIdx i).toArray:=by
   apply cM;simp[Array.eraseIdxIfInBounds,o]
  simp[vQ m,b]
theorem Eo{t ty:TypeId}{ts:Array TypeId}{m k:Value}{K:WK}{w:World}(b:ts[0]? =some t) (h:Ep P t m k K w.heap):Wv P (Builtin.delete_ ts ty #[m,k]) K w:=by
 unfold Ep at h;split at h
 ·rename_i c e m hc
  obtain⟨j,d,g,f,hd⟩:=xw hc;obtain⟨i,rfl,h⟩:=CK.dec_sound h;rcases h with⟨rfl,a⟩|⟨r,rfl,hm,a⟩
  ·refine⟨_,w,?_,Tame.refl w,a⟩
   simp[Builtin.delete_,b,aw g,nR hd f]
  ·exact⟨_,_,Kg b g f hd hm,eA _ _,a⟩
 ·exact h.elim
theorem N8{t k e:TypeId}(b:P.underlying t=some (.map k e)){m:Option Nat}{a:Nat}{w:World}(hm:m=none∧a=0∨∃r es,m=some r∧w.heap[r]? =some (.map es a)):
  (Instr.range t (.map m)).run P w=.ok (.pointer (some (aO w.heap))) (ke w (w.heap.push (.mapIter m a #[] a))):=by
 rcases hm with⟨rfl,rfl⟩|⟨r,es,rfl,c⟩
 ·simp only[Instr.range,Sem.run_bind,aw b,Result.andThen_ok,Sem.run_pure,EO,aO]
 ·simp only[Instr.range,Sem.run_bind,aw b,Result.andThen_ok,Sem.run_pure,l9 c,EO,aO]
theorem xi{w:World}{i:Nat}{m:Option Nat}{a:Nat}{b:Array Nat}{last:Nat}(h:w.heap[i]? =some (.mapIter m a b last)):(getObj i).run P w=.ok (.mapIter m a b last) w:=by
 simp only[getObj,Sem.run,h]
theorem JK{w:World}{i:Nat}{m:Option Nat}{a:Nat}{b:Array Nat}{last:Nat}{o:Obj}(h:w.heap[i]? =some (.mapIter m a b last)):(setObj i o).run P w=.ok () (ke w (w.heap.setIfInBounds i o)):=by
 simp only[setObj,Sem.run,h];rfl
theorem Fy(n:Nat)(a:0<n)(w:World):∃k w',k<n∧(choose (.mapNext n)).run P w=.ok k w'∧Tame w w'∧w'.heap=w.heap:=by
 unfold choose;simp only[Sem.run];by_cases h:(Question.mapNext n).forced=true
 ·exact⟨0,w,a,by rw[if_pos h],Tame.refl w,rfl⟩
 ·refine⟨(Question.mapNext n).cut (w.tape w.drawn (.mapNext n)),{w with drawn:=w.drawn+1},Nat.mod_lt _ a,by rw[if_neg h],⟨rfl,rfl,rfl⟩,rfl⟩
theorem Jq{J:Value}{t:TypeId}{K:WK}{w:World}(h:Pm J K w.heap):Wv P (Instr.next J false t) K w:=by
 unfold Pm at h;split at h
 ·rename_i a
  obtain⟨L,m,i,f,last,hi,h⟩:=h;obtain⟨b,off,O⟩:=a;simp only at L hi h;subst L;rcases h with⟨rfl,R⟩|⟨r,es,v,rfl,N,C,z,G⟩
  ·exact⟨_,w,by simp only[Instr.next,Sem.run_bind,xi hi,Result.andThen_ok,Sem.run_pure],Tame.refl w,R⟩
  ·have s:(!f.isEmpty&& !es.isEmpty&&es.all (fun e=>decide (e.born≥last)))=false:=by
    rcases C with h|h|h<;>simp[h]
   obtain⟨left,j⟩:∃left,left=es.filter fun e=> !f.contains e.born:=⟨_,rfl⟩
   obtain⟨old,p⟩:∃old,old=left.filter (·.born<i):=⟨_,rfl⟩
   obtain⟨new,hnew⟩:∃new,new=left.filter (·.born≥i):=⟨_,rfl⟩
   obtain⟨d,g⟩:∃d:Array (Option MapEntry),d=(if old.isEmpty then #[none]else #[])++(old++new).map some:=⟨_,rfl⟩
   have B:0<d.size:=by
    rw[g];by_cases y:old.isEmpty=true
    ·simp[y];omega
    ·have:old.size≠0:=by simpa using y
     simp[y];omega
   obtain⟨k,D,S,u,I,H⟩:=Fy (P:=P) d.size B w;obtain⟨c,hc⟩:∃c,d[k]? =some c:=⟨d[k],Array.getElem?_eq_getElem S⟩;have E:D.heap[b]? =some (.mapIter (some r) i f last):=by rw[H];exact hi
   have o:(!f.isEmpty&& !es.isEmpty&&es.all fun x=>decide (x.born≥last))=false:=s
   cases c with
   |none=>
    refine⟨.tuple #[.bool false],D,?_,I,?_⟩
    ·simp only[Instr.next,Sem.run_bind,xi hi,Result.andThen_ok,Sem.run_pure,l9 N,o,df,if_false,←j,←p,←hnew,←g,u,hc]
    ·rw[H]
     have q:old.isEmpty=true:=by
      have hm:none∈d:=Array.mem_of_getElem? hc;rw[g]at hm;by_cases y:old.isEmpty=true
      ·exact y
      ·simp[y]at hm
     refine z fun e Q F=>?_
     cases hs:f.contains e.born with
     |true=>rfl
     |false=>
      have n:e∈old:=by
       rw[p,j];simp only[qv];exact⟨⟨by simpa using Q,by rw[hs];rfl⟩,by simpa using F⟩
      rw[Array.isEmpty_iff]at q;rw[q]at n;simp at n
   |some e=>
    have n:e∈es∧f.contains e.born=false:=by
     have hm:some e∈d:=Array.mem_of_getElem? hc;have A:e∈left:=by
      rw[g]at hm;rw[Array.mem_append]at hm;rcases hm with hm|hm
      ·split at hm<;>simp at hm
      ·simp only[Array.mem_map,bD.injEq,exists_eq_right,Array.mem_append]at hm
       rcases hm with hm|hm
       ·rw[p]at hm;exact(qv.1 hm).1
       ·rw[hnew]at hm;exact(qv.1 hm).1
     rw[j]at A;have:=qv.1 A;exact⟨this.1,by simpa using this.2⟩
    refine⟨.tuple #[.bool true,e.key,e.val],ke D (D.heap.setIfInBounds b (.mapIter (some r) i (f.push e.born) v)),?_,I.trans (eA _ _),?_⟩
    ·simp only[Instr.next,Sem.run_bind,xi hi,Result.andThen_ok,Sem.run_pure,l9 N,o,df,if_false,←j,←p,←hnew,←g,u,hc,JK E]
    ·rw[H]
     exact G e (by simpa using n.1) n.2
 ·exact h.elim
theorem Gh{t e:TypeId}{z:List Value}{k k':IntKind}{l c:Int}{w:World}(p:wM P t=some e)(D:rt P e=some z)(g:z.length=bM P e)(A:0≤l)(F:l≤c)(E:c≤9223372036854775807)(B:rG P e*c≤2^48):
  (Instr.makeSlice t (.int k l) (.int k' c)).run P w=.ok (.slice (some (aO w.heap)) l.toNat c.toNat) (ke w (hnew w.heap (dq c.toNat z) e)):=by
 obtain⟨v,x,d⟩:=j9 D;obtain⟨i,hi,C⟩:=r9 x;have f:bM P e=i.size:=by simp[bM,hi]
 have o:rG P e=i.bytes:=by simp[rG,hi]
 have n:v.cells.size=i.size:=by rw[←f,←g,←d];simp
 have y:=BK A (by omega);have hc:=BK (show 0≤c by omega) E
 rw[o]at B;have c1:¬(c<0):=by omega
 have q:¬(281474976710656<(i.bytes:Int)*c):=by omega
 have s:¬(l<0):=by omega
 have u:¬(c<l):=by omega
 by_cases a:c.toNat*i.size=0
 ·have m:(dq c.toNat z).length=0:=by simp[dq,g,f,a]
  rw[aE.1 m];simp[Instr.makeSlice,aw (dy p),asInt,asIntOf,cI hi,y,hc,c1,q,s,u,sizeOf,a,kw]
 ·have b:((Array.range (c.toNat*i.size)).map (fun j=>v.cells[j%v.cells.size]!))=(dq c.toNat z).toArray:=by
   rw[←n,MY,d]
  have key:(newRow e ((Array.range (c.toNat*i.size)).map (fun j=>v.cells[j%v.cells.size]!))).run P w=.ok (aO w.heap) (ke w (hnew w.heap (dq c.toNat z) e)):=by
   rw[b,kw]
  simp[Instr.makeSlice,aw (dy p),asInt,asIntOf,cI hi,y,hc,c1,q,s,u,sizeOf,a,eC x];rw[key];rfl
theorem Agree.args{N:Nat}{r:cA}{a:Act}(h:Agree N r a){os:Array Operand}{vs:List Value}(b:oy r os.toList=some vs):os.map a.eval=vs.toArray:=by
 rw[←mA h b];apply cM;simp
theorem HC.out{f:FuncId}{args:List Value}{ks:List Kind}{K:WK}{w:World}(h:HC P f args ks (fun x h'=>K (DQ ks (nn ks x)) h') w.heap):KH P (callFunc f args.toArray) K w:=by
 rcases h.run w rfl with⟨c,g⟩|⟨v,d,c,a,x,rfl,b⟩
 ·refine .inr (.inr (.inl ⟨f,args.toArray,c,g.mono ?_⟩))
  rintro e d ⟨a,x,rfl,b⟩;exact⟨a,_,rfl,b⟩
 ·exact .inl ⟨_,d,c,a,b⟩
theorem OL{a b e:TypeId}{s:ByteArray}{w:World}(j:P.underlying a=some .string)(hd:P.underlying b=some (.slice e))(k:P.underlying e=some (.int .u8)):
  ∃c,s.size≤c∧(convert a b (.string s)).run P w=.ok (.slice (some (aO w.heap)) s.size c) (ke w.drew (w.heap.push (.cells (dN s++fR (c-s.size) (Value.int .u8 0)).toArray e (c,c+1)))):=by
 have d:s.size≤grownCap w s.size 0 e:=qr _ _;refine⟨_,d,?_⟩;rw[Go.Lib.run_convert_string_bytes w a b e s j hd k];have hc:(Go.Lib.bytesCells w e s).size=grownCap w s.size 0 e:=by
  unfold Go.Lib.bytesCells;rw[Array.size_append,Array.size_map,Array.size_replicate,show s.data.size=s.size from rfl]
  omega
 have f:(dN s++fR (grownCap w s.size 0 e-s.size) (Value.int .u8 0)).toArray=Go.Lib.bytesCells w e s:=by
  unfold Go.Lib.bytesCells dN;apply cM;simp
 rw[f];unfold Go.Lib.bytesWorld World.freeze;rw[if_neg (by omega),hc];unfold World.alloc World.drew ke;congr 1
 congr 1
 apply Array.ext (by simp);intro i m g;rw[Array.getElem_modify];simp only[Array.getElem_push];split
 ·rename_i e
  subst e;simp
 ·rename_i e
  have hi:i<w.heap.size:=by simp at g;omega
  rw[dif_pos hi,dif_pos hi]
theorem BM{o:Oper}{r:cA}{K:WK}{w:World}{N:Nat}{a:Act}(D:Agree N r a)(j:F4 P o r K w.heap):KH P (execOp a.eval o) K w:=by
 have A:∀{x:Operand} {v:Value},dd r x=some v→a.eval x=v:=fun h=>kh D h
 obtain⟨R,op,type,pos,G,F⟩:=o;cases op with
 |alloc t=>
  simp only[F4]at j;split at j
  ·rename_i z hz
   obtain⟨v,I,T⟩:=j9 hz;have C:(Instr.alloc t true (.tuple #[])).run P w=.ok (.pointer (some (aO w.heap))) (ke w (hnew w.heap z t)):=by
    simp[Instr.alloc,eC I,newVar,kw,T]
   exact Wv.out ⟨_,_,C,eA _ _,j⟩
  ·exact j.elim
 |box t x=>
  simp only[F4]at j;split at j
  ·rename_i v I
   have C:(Instr.box t v).run P w=.ok (.pointer (some (aO w.heap))) (ke w (hnew w.heap v.cells.toList t)):=by
    simp[Instr.box,newVar,kw]
   simp only[execOp,A I];exact Wv.out ⟨_,_,C,eA _ _,j⟩
  ·exact j.elim
 |build t ps=>
  simp only[F4]at j;split at j
  ·rename_i vs p
   split at j
   ·rename_i cs hcs
    have S:(ps.map fun x=>(x.1,a.eval x.2))=vs.toArray:=by
     rw[←pl D p];apply cM;simp
    have C:=AU (ps:=vs.toArray) (by simpa using hcs) w;simp only[execOp];rw[show(ps.map fun(i,x)=>(i,a.eval x))=vs.toArray from S]
    exact Wv.out ⟨_,w,C,Tame.refl w,j⟩
   ·exact j.elim
  ·exact j.elim
 |buildSlice t n ps=>
  simp only[F4]at j;split at j
  ·rename_i e vs E p
   split at j
   ·rename_i z hz
    cases hb:(yq (n*bM P e) 16777216&&bB z.length (bM P e))with
    |false=>rw[hb]at j;exact j.elim
    |true=>
     rw[hb]at j;simp only[aR]at hb;simp only[cond_true]at j;split at j
     ·rename_i cs hcs
      have S:(ps.map fun x=>(x.1,a.eval x.2))=vs.toArray:=by
       rw[←pl D p];apply cM;simp
      have C:=Cs (ps:=vs.toArray) E hz (jd hb.1) (aQ hb.2) (by simpa using hcs) w;simp only[execOp];rw[show(ps.map fun(i,x)=>(i,a.eval x))=vs.toArray from S]
      exact Wv.out ⟨_,_,C,eA _ _,j⟩
     ·exact j.elim
   ·exact j.elim
  ·exact j.elim
 |store t x y=>
  simp only[F4]at j;split at j
  ·rename_i b v hb I
   simp only[execOp,A hb,A I];exact Wu.out (HP j)
  ·exact j.elim
 |mapUpdate t m k x=>
  simp only[F4]at j;split at j
  ·rename_i mv kv xv hm B hx
   simp only[execOp,A hm,A B,A hx];exact Wu.out (yH j)
  ·exact j.elim
 |insert t m k x=>
  simp only[F4]at j;split at j
  ·rename_i mv kv xv hm B hx
   simp only[execOp,A hm,A B,A hx];exact Wu.out (yH j)
  ·exact j.elim
 |makeMap t n=>
  simp only[F4]at j;cases n with
  |none=>exact Wv.out ⟨_,ke w (w.heap.push (.map #[] 0)),by simp[Instr.makeMap];rfl,eA _ _,j⟩
  |some n=>
   simp only at j;split at j
   ·rename_i k i hn E
    exact Wv.out ⟨_,ke w (w.heap.push (.map #[] 0)),by simp[Instr.makeMap,A hn,aw E,asInt,asIntOf];rfl,eA _ _,j⟩
   ·exact j.elim
 |makeSlice t l c=>
  simp only[F4]at j;split at j
  ·rename_i e k l' k' c' E X hc
   split at j
   ·rename_i z hz
    cases hb:bB z.length (bM P e)with
    |false=>rw[hb]at j;exact j.elim
    |true=>
     rw[hb]at j;obtain⟨⟨Z,U,V,h3⟩,j⟩:=j;simp only[execOp,A X,A hc];exact Wv.out ⟨_,_,Gh E hz (aQ hb) Z U V h3,eA _ _,j⟩
   ·exact j.elim
  ·exact j.elim
 |convert s d x=>
  simp only[F4]at j;split at j
  ·rename_i e v W hd hx
   cases hu:L8 P e with
   |false=>rw[hu]at j;exact j.elim
   |true=>
    rw[hu]at j;obtain⟨c,hc,L⟩:=OL (w:=w) (s:=v) W hd (E6 hu);simp only[execOp,A hx];exact Wv.out ⟨_,_,L,⟨rfl,rfl,rfl⟩,j c hc⟩
  ·exact j.elim
 |range t x=>
  simp only[F4]at j;split at j
  ·rename_i k e m hu hx
   obtain⟨Q,hm,j⟩:=j;simp only[execOp,A hx];exact Wv.out ⟨_,_,N8 hu hm,eA _ _,j⟩
  ·exact j.elim
 |next it isS=>
  cases isS with
  |true=>simp only[F4]at j
  |false=>
   simp only[F4]at j;split at j
   ·rename_i v I
    simp only[execOp,A I];exact Wv.out (Jq j)
   ·exact j.elim
 |call c=>
  simp only[F4]at j;have O:∀{b:Builtin} {vs:List Value},c.callee=.builtin b→oy r c.args.toList=some vs→∃cs:Array Bool,∀w,(execOp a.eval ⟨R,.call c,type,pos,G,F⟩).run P w=
    (builtin b c.argTypes type cs vs.toArray).run P w:=by
   intro b vs hc p;refine⟨c.args.map fun| .const _=>true|_=>false,fun w=>?_⟩
   simp[execOp,resolve,hc,D.args p,invoke];rfl
  have J:∀{s s':Sem Next},(∀w,s.run P w=s'.run P w)→KH P s' K w→KH P s K w:=by
   intro s s' C h;unfold KH at h⊢;simp only[C];exact h
  split at j
  ·rename_i s x hc p
   split at j
   ·rename_i t u hat
    obtain⟨cs,H⟩:=O hc p;refine J H ?_;have q:c.argTypes= #[t,u]:=by apply cM;rw[hat]
    simp only[builtin,q];split at j
    ·rename_i e' hu;exact Wv.out (yI (.inl ⟨e',hu⟩) j)
    ·rename_i hu;exact Wv.out (yI (.inr hu) j)
    ·rename_i k0 hu;exact Wv.out (Er hu j)
    ·exact j.elim
   ·exact j.elim
  ·rename_i x hc p
   split at j
   ·rename_i t hat
    obtain⟨cs,H⟩:=O hc p;refine J H ?_;have q:c.argTypes= #[t]:=by apply cM;rw[hat]
    simp only[builtin,q];exact Wv.out (HQ j)
   ·exact j.elim
  ·rename_i s x hc p
   split at j
   ·rename_i t u hat
    obtain⟨cs,H⟩:=O hc p;refine J H ?_;have q:c.argTypes= #[t,u]:=by apply cM;rw[hat]
    simp only[builtin,q];exact Wv.out (Jr j)
   ·exact j.elim
  ·rename_i m k hc p
   split at j
   ·rename_i t u hat
    obtain⟨cs,H⟩:=O hc p;refine J H ?_;simp only[builtin];exact Wv.out (Eo (by rw[←aW,hat];rfl) j)
   ·exact j.elim
  ·rename_i f args hc p
   unfold SE at j;split at j
   ·exact j.elim
   ·rename_i ks hks
    split at j
    ·rename_i f
     refine J (s':=callFunc f args.toArray) (fun w=>?_) j.out
     simp[execOp,resolve,hc,D.args p,Act.eval,Deferred.ofValue,invoke]
    ·rename_i f hf
     split at j
     ·rename_i fv hfv
      rcases j.run with⟨g,first,cap,rfl,Y⟩|⟨l,rfl,Y⟩
      rotate_left
      ·obtain⟨fn,tmps,assign,body,U,V⟩:=Y.run w rfl
       refine .inr (.inr (.inr ⟨l,fn,tmps,assign,body,?_,fun c cs=>?_⟩))
       ·rw[←U]
        simp[execOp,resolve,hc,D.args p,A hfv,Deferred.ofValue,invoke]
       ·obtain⟨b,w',E,B,W⟩:=V c cs
        refine⟨b,w',E,?_,W⟩;obtain⟨t,e,B⟩:=sN B;have X:ks.length=1:=by rw[←tR ks t,←e];rfl
        match ks,X,t,e,B with
        | [k],_,t,e,B=>rw[←e]at B;exact B
      refine J (s':=callFunc g (first.toList++args++cap.toList).toArray) (fun w=>?_) Y.out
      have e:first++args.toArray++cap=(first.toList++args++cap.toList).toArray:=by apply cM;simp
      rw[←e];simp[execOp,resolve,hc,D.args p,A hfv,Deferred.ofValue,invoke]
     ·exact j.elim
  ·exact j.elim
 |_=>simp only[F4]at j
end Go.Lift
