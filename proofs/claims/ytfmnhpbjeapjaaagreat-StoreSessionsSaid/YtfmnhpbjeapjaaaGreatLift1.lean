/- A part of the proof that the named laws of this program answer true, whatever the input. -/
import Derived.Test.YtfmnhpbjeapjaaaGreatLift0
import Derived.Laws.Append
import Derived.Laws.Cover3
import Derived.Laws.StructEq
import Derived.Laws.BytesString
import Derived.Lib.ConvBytes
open Array renaming ext'→cq,getElem?_toList→aN,mem_filter→pB
open Bool renaming and_eq_true→aH,false_eq_true→cE
open ByteArray renaming data_extract→oU
open List renaming extract_eq_take_drop→fI,map_cons→aY,map_map→fp,take_of_length_le→bI,length_cons→aX,cons_append→lR,replicate→eE,length_eq_zero_iff→bU,getElem?_eq_getElem→aA
open Nat renaming beq→aW,ble→xt,eq_of_beq_eq_true→aG,le_of_ble_eq_true→ic,add_zero→jI,zero_add→az,min→cX
open Option renaming some→bD,isSome_iff_exists→f7,map_some→mN
open Prod renaming mk→oK
open UInt8 renaming ofNat→ll
namespace Go.Lift
open Go
def NY(S:Option (ac→Prop))(h:ac):Prop:=match S with|none=>True|some f=>f h
def Yv(P:Program)(s:Sem Value)(K:RK)(h:ac):Prop:=∃v S,K v S∧NY S h∧∀w:World,NY S w.heap→s.run P w=.ok v w
theorem Yv.of_pure{P:Program}{s:Sem Value}{K:RK}{h:ac}{v:Value}(c:K v none)(b:∀w:World,s.run P w=.ok v w):Yv P s K h:=
 ⟨v,none,c,trivial,fun w _=>b w⟩
variable {P:Program}
theorem wr{t:TypeId}{f:Nat}{u:TypeId}{off:Nat}(h:ws P t f=some (u,off)):
  ∃fs g,P.underlying t=some (.struct fs)∧fs[f]? =some g∧g.type=u∧g.offset=off:=by
 unfold ws at h;split at h
 ·rename_i fs hu
  split at h
  ·rename_i g hg
   simp only[bD.injEq,oK.injEq]at h;exact⟨fs,g,hu,by simpa using hg,h.1,h.2⟩
  ·cases h
 ·cases h
theorem yq{t:TypeId}(h:aW (bq P t) 0=false)(w:World):(sizeOf t).run P w=.ok (bq P t) w:=by
 unfold bq at h⊢;cases hi:P.info? t with
 |none=>rw[hi]at h;cases h
 |some i=>simp[sizeOf,cf hi]
theorem Cx{t:TypeId}{f:Nat}{u:TypeId}{off:Nat}{a:Addr}{K:RK}{h:ac}(j:ws P t f=some (u,off))
  (b:bif aW (bq P u) 0 then False else K (.pointer (some (adr a off))) none):Yv P (Instr.fieldAt t (.pointer (some a)) f) K h:=by
 obtain⟨k,g,i,d,rfl,rfl⟩:=wr j;cases hz:aW (bq P g.type) 0 with
 |true=>rw[hz]at b;exact b.elim
 |false=>
  rw[hz]at b;refine .of_pure b fun w=>?_
  have c:bq P g.type≠0:=fun e=>by rw[e]at hz;cases hz
  simp only[Instr.fieldAt,Sem.run_bind,aj i,Result.andThen_ok,d,Instr.sureAddr,Sem.run_pure,fieldPlace,yq hz];simp[c,ue]
theorem vi{t:TypeId}{i:TypeInfo}(_:P.info? t=some i)(b:∃d,P.underlying t=some d)(w:World):(isAgg t).run P w=.ok (vj P t) w:=by
 obtain⟨d,hd⟩:=b;simp only[isAgg,Sem.run_bind,aj hd,Result.andThen_ok];unfold vj;rw[hd];cases d<;>rfl
theorem zr{c:BinOp}{k k':IntKind}{a b:Int}{K:RK}{h:ac}(g:c=.shl∨c=.shr)(f:It c k a b K):Yv P (Op.shift c k a k' b) K h:=by
 rcases g with rfl|rfl
 ·obtain⟨d,e⟩:=f
  refine .of_pure e fun w=>?_
  simp[Op.shift,Int.not_lt.2 d]
 ·obtain⟨d,e⟩:=f
  refine .of_pure e fun w=>?_
  simp[Op.shift,Int.not_lt.2 d]
theorem Jd{c:BinOp}{k:IntKind}{a b:Int}{K:RK}{h:ac}(d:P7 c k a b K)(g:c≠ .shl∧c≠ .shr):Yv P (binOp c 0 (.int k a) (.int k b)) K h:=by
 cases c<;>simp only[P7]at d
 case quo=>obtain⟨e,f⟩:=d;exact .of_pure f fun w=>by simp[binOp,Op.intDiv,e]
 case rem=>obtain⟨e,f⟩:=d;exact .of_pure f fun w=>by simp[binOp,Op.intDiv,e]
 all_goals exact .of_pure d fun w=>by simp[binOp,Op.intArith,Op.intBits,Op.intCmp]
theorem DZ(c:BinOp)(t:TypeId)(k k':IntKind)(a b:Int):binOp c t (.int k a) (.int k' b)=binOp c 0 (.int k a) (.int k' b):=by
 cases c<;>rfl
theorem Im{c:BinOp}{t:TypeId}{a b:ByteArray}{K:RK}{h:ac}(d:PL c a b K):Yv P (binOp c t (.string a) (.string b)) K h:=by
 cases c<;>simp only[PL]at d
 case add=>
  obtain⟨f,e⟩:=d;refine .of_pure e fun w=>?_
  have:¬(((a.size+b.size:Nat):Int)>IntKind.i64.max):=by
   have:IntKind.i64.max=9223372036854775807:=by decide
   omega
  simp only[binOp,Op.stringOp,if_neg this,Sem.run_pure]
 all_goals exact .of_pure d fun w=>by simp[binOp,Op.stringOp]
theorem kZ{t:TypeId}{x y:Value}{b:Bool}{w:World}(h:∀d,(Op.equalIn (d+1) t x y).run P w=.ok b w):(Op.equal t x y).run P w=.ok b w:=h 9999
theorem DJ{t:TypeId}{e:TypeId}(b:P.underlying t=some (.pointer e))(a:Option Addr)(w:World):(Op.equal t (.pointer a) (.pointer none)).run P w=.ok a.isNone w:=by
 refine kZ fun d=>?_
 simp only[Op.equalIn,Sem.run_bind,aj b,Result.andThen_ok];cases a<;>rfl
theorem DK(f:BinOp)(t:TypeId)(x y:Operand)(a b:Value)(h:∀c d,a=.agg c→b=.agg d→False)(e:a=.nilIface→b=.nilIface→False)(w:World):
  (eqGuard f t x y a b).run P w=.ok () w:=by
 cases f;case eql=>cases a<;>cases b<;>first|rfl|exact(e rfl rfl).elim|exact(h _ _ rfl rfl).elim
 case neq=>cases a<;>cases b<;>first|rfl|exact(e rfl rfl).elim|exact(h _ _ rfl rfl).elim
 all_goals rfl
theorem LB(t:TypeId)(x y:Value)(hx:∀k a,x≠ .int k a)(c:∀s,x≠ .string s)(d:∀k a,x≠ .float k a)(hc:∀k a b,x≠ .complex k a b):binOp .eql t x y=(do pure (.bool (←Op.equal t x y))):=by
 cases x<;>first|rfl|exact absurd rfl (hx _ _)|exact absurd rfl (c _)|exact absurd rfl (d _ _)|exact absurd rfl (hc _ _ _)
theorem LA(t:TypeId)(x y:Value)(hx:∀k a,x≠ .int k a)(c:∀s,x≠ .string s)(d:∀k a,x≠ .float k a)(hc:∀k a b,x≠ .complex k a b):binOp .neq t x y=(do pure (.bool (!(←Op.equal t x y)))):=by
 cases x<;>first|rfl|exact absurd rfl (hx _ _)|exact absurd rfl (c _)|exact absurd rfl (d _ _)|exact absurd rfl (hc _ _ _)
theorem lf{t:TypeId}{neg:Bool}{x y:Value}{b:Bool}{w:World}(e:(Op.equal t x y).run P w=.ok b w)
  (hx:∀k a,x≠ .int k a)(d:∀s,x≠ .string s)(c:∀k a,x≠ .float k a)(hc:∀k a b,x≠ .complex k a b):
  (binOp (bif neg then .neq else .eql) t x y).run P w=.ok (.bool (bif neg then !b else b)) w:=by
 cases neg
 ·simp only[cond_false,LB t x y hx d c hc,Sem.run_bind,e,Result.andThen_ok,Sem.run_pure]
 ·simp only[cond_true,LA t x y hx d c hc,Sem.run_bind,e,Result.andThen_ok,Sem.run_pure]
theorem Jc{x:Value}(h:P6 x=true):(∃f a b,x=.func f a b)∨x=.nilFunc:=by
 cases x<;>first|exact .inr rfl|exact .inl ⟨_,_,_,rfl⟩|cases h
theorem Dr{t:TypeId}{neg:Bool}{x y:Value}{K:RK}{h:ac}(g:OH P t neg x y K):
  (∀c d,x=.agg c→y=.agg d→False)∧(x=.nilIface→y=.nilIface→False)∧Yv P (binOp (bif neg then .neq else .eql) t x y) K h:=by
 unfold OH at g;split at g
 ·rename_i e a hu
  refine⟨nofun,nofun,.of_pure g fun w=>?_⟩
  exact lf (DJ hu a w) nofun nofun nofun nofun
 ·rename_i k e a hu
  refine⟨nofun,nofun,.of_pure g fun w=>?_⟩
  refine lf ?_ nofun nofun nofun nofun;refine kZ fun d=>?_
  simp only[Op.equalIn,Sem.run_bind,aj hu,Result.andThen_ok];cases a<;>rfl
 ·rename_i e a _ _ _ _ hu
  refine⟨nofun,nofun,.of_pure g fun w=>?_⟩
  refine lf ?_ nofun nofun nofun nofun;refine kZ fun d=>?_
  simp only[Op.equalIn,Sem.run_bind,aj hu,Result.andThen_ok];cases a<;>rfl
 ·rename_i hu
  obtain⟨hx,i⟩:=g;rcases Jc hx with⟨f,a,b,e⟩|e<;>subst e
  ·refine⟨nofun,nofun,.of_pure i fun w=>lf (kZ fun d=>?_) nofun nofun nofun nofun⟩
   simp only[Op.equalIn,Sem.run_bind,aj hu,Result.andThen_ok];rfl
  ·refine⟨nofun,nofun,.of_pure i fun w=>lf (kZ fun d=>?_) nofun nofun nofun nofun⟩
   simp only[Op.equalIn,Sem.run_bind,aj hu,Result.andThen_ok];rfl
 ·exact g.elim
theorem vQ{w:World}{a b:Addr}(d:fK w.heap a)(f:fK w.heap b):(sameAddr a b).run P w=.ok (a==b) w:=by
 obtain⟨i,o,d,v⟩:=d;obtain⟨cb,eb,f,sb⟩:=f;by_cases c:a.block=b.block
 ·simp[sameAddr,c]
 ·have g:(a==b)=false:=by
   rw[beq_eq_false_iff_ne];intro e;exact c (by rw[e])
  have k:w.shape? a.block=some (o,i.size):=by simp[World.shape?,d]
  have q:w.shape? b.block=some (eb,cb.size):=by simp[World.shape?,f]
  have j:∀n,w.frozen? ({block:=a.block,off:=n}:Addr)=false:=fun n=>by simp[World.frozen?,d]
  have u:∀n,w.frozen? ({block:=b.block,off:=n}:Addr)=false:=fun n=>by simp[World.frozen?,f]
  have p:w.frozen? a=false:=by simp[World.frozen?,d]
  have s:w.frozen? b=false:=by simp[World.frozen?,f]
  obtain⟨m,hm⟩:∃m,i.size=m+1:=⟨i.size-1,by omega⟩
  obtain⟨n,t⟩:∃n,cb.size=n+1:=⟨cb.size-1,by omega⟩
  simp[sameAddr,c,noView,viewAt,mayBeOne,stringish,k,q,j,u,p,s,hm,t,g]
theorem Bc{t:TypeId}{neg:Bool}{x y:Value}{K:RK}{h:ac}(g:Py P t neg x y K h):
  (∀c d,x=.agg c→y=.agg d→False)∧(x=.nilIface→y=.nilIface→False)∧Yv P (binOp (bif neg then .neq else .eql) t x y) K h:=by
 unfold Py at g;split at g
 ·rename_i a b hu
  refine⟨nofun,nofun,.of_pure g fun w=>?_⟩
  refine lf ?_ nofun nofun nofun nofun;refine kZ fun d=>?_
  simp only[Op.equalIn,Sem.run_bind,aj hu,Result.andThen_ok,Sem.run_pure]
 ·rename_i e a b hu
  obtain⟨j,p,m⟩:=g;refine⟨nofun,nofun,_,_,m,p,fun w k=>?_⟩
  refine lf ?_ nofun nofun nofun nofun;have f:aW (bq P e) 0=false:=by
   cases hb:aW (bq P e) 0 with
   |false=>rfl
   |true=>rw[hb]at j;exact j.elim
  have i:bq P e≠0:=fun e=>by rw[e]at f;cases f
  refine kZ fun d=>?_
  simp only[Op.equalIn,Sem.run_bind,aj hu,Result.andThen_ok];cases a with
  |none=>cases b<;>rfl
  |some a=>cases b with
   |none=>rfl
   |some b=>
    obtain⟨n,o⟩:=k a b rfl rfl;simp only[Sem.run_bind,yq f,Result.andThen_ok,ne_eq,i,not_false_eq_true,if_true,vQ n o];rfl
 ·exact g.elim
theorem Dn{f:BinOp}{t:TypeId}{x y:Value}{K:RK}{h:ac}(e:Ox P f t x y K h):
  (∀c d,x=.agg c→y=.agg d→False)∧(x=.nilIface→y=.nilIface→False)∧Yv P (binOp f t x y) K h:=by
 unfold Ox at e;split at e
 ·rename_i k a k' b
  refine⟨nofun,nofun,?_⟩;rw[DZ];split at e
  ·exact zr (k':=k') (.inl rfl) e
  ·exact zr (k':=k') (.inr rfl) e
  ·rename_i h1 h2
   cases hk:F8 k' k with
   |false=>rw[hk]at e;exact e.elim
   |true=>rw[hk]at e;have:=zI hk;subst this;exact Jd e ⟨h1,h2⟩
 ·exact⟨nofun,nofun,Im e⟩
 ·split at e
  ·exact Bc (neg:=false) e
  ·exact Bc (neg:=true) e
  ·exact e.elim
theorem Hh{u:TypeId}{cs:List Value}{off:Nat}(b:((P.underlying u).isSome&&(P.info? u).isSome)=true){w:World}(d:vj P u=true):
  (part u cs.toArray off).run P w=.ok (.agg ((cs.drop off).take (bq P u)).toArray) w:=by
 simp only[aH,f7]at b;obtain⟨b,i,c⟩:=b;have e:(sizeOf u).run P w=.ok (bq P u) w:=by simp[sizeOf,cf c,bq,c]
 simp only[part,Sem.run_bind,vi c b,Result.andThen_ok,d,if_true,e,Sem.run_pure];congr 2
 apply cq;simp[fI]
theorem E1{u:TypeId}{cs:List Value}{off:Nat}(b:((P.underlying u).isSome&&(P.info? u).isSome)=true){w:World}(e:vj P u=false){v:Value}(hc:cs[off]? =some v):
  (part u cs.toArray off).run P w=.ok v w:=by
 simp only[aH,f7]at b;obtain⟨b,i,d⟩:=b;have c:cs.toArray[off]? =some v:=by simpa using hc
 simp only[part,Sem.run_bind,vi d b,Result.andThen_ok,e,cE,if_false,c,Sem.run_pure]
theorem yx{h:ac}:∀{l m:List (Option Addr×Option Addr)},rK h (l++m)→rK h l∧rK h m
 | [],_,h=>⟨trivial,h⟩
 |(_,_)::_,_,h=>⟨⟨h.1,(yx h.2).1⟩,(yx h.2).2⟩
theorem HB{t:TypeId}{x y:Value}{b:Bool}{l:List (Option Addr×Option Addr)}(f:Ng P t x y=some (b,l)){w:World}(m:rK w.heap l)(d:Nat):
  (Op.equalIn (d+1) t x y).run P w=.ok b w:=by
 unfold Ng at f;split at f
 ·rename_i k0 k a k' c hu
  cases hk:F8 k' k with
  |false=>rw[hk]at f;cases f
  |true=>
   rw[hk]at f;have:=zI hk;subst this;cases f;exact run_equalIn_int w d t _ _ _ _ hu
 ·rename_i a c hu
  cases f;exact run_equalIn_bool w d t _ _ hu
 ·rename_i a c hu
  cases f;exact run_equalIn_string w d t _ _ hu
 ·rename_i e a c hu
  cases hz:aW (bq P e) 0 with
  |true=>rw[hz]at f;cases f
  |false=>
   rw[hz]at f;cases f;have g:bq P e≠0:=fun e=>by rw[e]at hz;cases hz
   simp only[Op.equalIn,Sem.run_bind,aj hu,Result.andThen_ok];cases a with
   |none=>cases c<;>rfl
   |some a=>cases c with
    |none=>rfl
    |some c=>
     obtain⟨i,j⟩:=m.1 a c rfl rfl;simp only[Sem.run_bind,yq hz,Result.andThen_ok,ne_eq,g,not_false_eq_true,if_true,vQ i j];rfl
 ·cases f
theorem DL{rec:TypeId→List Value→List Value→Option (Bool×List (Option Addr×Option Addr))}{d:Nat}{xs ys:List Value}{w:World}
  (i:∀t us vs b l,rec t us vs=some (b,l)→rK w.heap l→(Op.equalIn (d+1) t (.agg us.toArray) (.agg vs.toArray)).run P w=.ok b w):
  ∀(fs:List Field) (b:Bool) (l:List (Option Addr×Option Addr)),O1 P rec xs ys fs=some (b,l)→rK w.heap l→(Op.eqFields (d+1) xs.toArray ys.toArray fs).run P w=.ok b w
 | [],b,l,he,_=>by cases he;rfl
 |f::fs,b,l,he,hp=>by
  unfold O1 at he;split at he
  ·cases he
  ·rename_i hn
   cases hi:((P.underlying f.type).isSome&&(P.info? f.type).isSome)with
   |false=>rw[hi]at he;cases he
   |true=>
    rw[hi]at he;simp only[cond_true]at he;split at he
    ·rename_i b1 l1 c m e1 e2
     cases he;obtain⟨g,n⟩:=yx hp;have e:=DL i fs c m e2 n;have o:∃u v,(part f.type xs.toArray f.offset).run P w=.ok u w∧(part f.type ys.toArray f.offset).run P w=.ok v w∧(Op.equalIn (d+1) f.type u v).run P w=.ok b1 w:=by
      cases ha:vj P f.type with
      |true=>
       rw[ha]at e1;exact⟨_,_,Hh hi ha,Hh hi ha,i _ _ _ _ _ e1 g⟩
      |false=>
       rw[ha]at e1;simp only[cond_false]at e1;split at e1
       ·rename_i x y hx hy
        exact⟨x,y,E1 hi ha hx,E1 hi ha hy,HB e1 g d⟩
       ·cases e1
     obtain⟨u,v,p,j,k⟩:=o;simp only[Op.eqFields,ne_eq,hn,not_false_eq_true,if_true,Sem.run_bind,p,j,k,Result.andThen_ok];cases b1
     ·rfl
     ·exact e
    ·cases he
theorem yF{w:World}:∀(m:Nat) (t:TypeId) (xs ys:List Value) (b:Bool) (l:List (Option Addr×Option Addr)),Nh P m t xs ys=some (b,l)→rK w.heap l→
  ∀d,(Op.equalIn (d+m+1) t (.agg xs.toArray) (.agg ys.toArray)).run P w=.ok b w
 |0,_,_,_,_,_,he,_,_=>by cases he
 |m+1,t,xs,ys,b,l,he,hp,d=>by
  unfold Nh at he;split at he
  ·rename_i fs hu
   cases hs:P.stoodInHeld t with
   |true=>rw[hs]at he;cases he
   |false=>
    rw[hs]at he;have c:P.fieldsOf t=fs:=by simp[Program.fieldsOf,hu]
    rw[run_equalIn_struct w _ t _ _ (by rw[c];exact hu) hs,c];exact DL (d:=d+m) (fun t f vs b l g e=>yF m t f vs b l g e d) fs.toList b l he hp
  ·cases he
theorem Fj{neg b:Bool}{K:RK}{h:ac}{l:List (Option Addr×Option Addr)}(c:R0 neg b K h l):∃S,K (.bool (bif neg then !b else b)) S∧NY S h∧∀h',NY S h'→rK h' l:=by
 cases l with
 |nil=>exact⟨none,c,trivial,fun _ _=>trivial⟩
 |cons p l=>exact⟨_,c.2,c.1,fun _ h=>h⟩
theorem IL{e:BinOp}{t:TypeId}{xs ys:Array Value}{x y:Operand}{K:RK}{h:ac}(c:PT P e t xs.toList ys.toList K h):
  ∃v S,K v S∧NY S h∧∀w:World,NY S w.heap→(do eqGuard e t x y (.agg xs) (.agg ys);binOp e t (.agg xs) (.agg ys):Sem Value).run P w=.ok v w:=by
 unfold PT at c;cases hg:P.eqGuardType P.depth t with
 |true=>rw[hg]at c;exact c.elim
 |false=>
  rw[hg]at c;simp only[cond_false]at c;split at c
  ·split at c
   ·rename_i b l he
    obtain⟨S,g,i,f⟩:=Fj c;refine⟨_,S,g,i,fun w d=>?_⟩
    have:=yF 10 t _ _ b l he (f _ d) 9989;simp only[Array.toArray_toList]at this;simp only[Sem.run_bind,run_eqGuard_agg w _ t x y _ _ hg,Result.andThen_ok,run_eql_struct,this];rfl
   ·exact c.elim
  ·split at c
   ·rename_i b l he
    obtain⟨S,g,i,f⟩:=Fj c;refine⟨_,S,g,i,fun w d=>?_⟩
    have:=yF 10 t _ _ b l he (f _ d) 9989;simp only[Array.toArray_toList]at this;simp only[Sem.run_bind,run_eqGuard_agg w _ t x y _ _ hg,Result.andThen_ok,run_neq_struct,this];rfl
   ·exact c.elim
  ·exact c.elim
theorem KZ{c:UnOp}{x:Value}{K:RK}{h:ac}(b:RL c x K):Yv P (Op.unary c x) K h:=by
 unfold RL at b;split at b
 ·exact .of_pure b fun w=>rfl
 ·exact .of_pure b fun w=>rfl
 ·exact .of_pure b fun w=>rfl
 ·exact b.elim
theorem DY:∀(l:List UInt8) (s:ByteArray),(l.map fun b=>((b.toNat:Nat):Int)).foldl (fun r n=>r.push (ll n.toNat)) s=⟨s.data++l.toArray⟩
 | [],s=>by simp
 |b::l,s=>by
  simp only[aY,List.foldl_cons];rw[DY l];congr 1
  have:ll ((b.toNat:Nat):Int).toNat=b:=by simp
  rw[this];apply cq;simp[ByteArray.push]
theorem Dy{e:TypeId}(h:Jb P e=true):P.underlying e=some (.int .u8):=by
 unfold Jb at h;split at h
 ·assumption
 ·cases h
theorem G0{w:World}{a:Addr}{vs:List Value}(b:Row w.heap a vs):(loadCells a vs.length).run P w=.ok vs.toArray w:=by
 have:=run_firstCells_some (P:=P) w 1 vs.length a 0 0 vs (by simp) fun j v c=>by rw[←ue];exact b j v c
 simpa[Builtin.firstCells]using this
theorem G8{j g:TypeId}{x:Value}{K:RK}{h:ac}(f:MB P j g x K h):Yv P (convert j g x) K h:=by
 unfold MB at f;split at f
 ·rename_i k k' k'' n h1 h2
  exact .of_pure f fun w=>by simp only[convert,Sem.run_bind,aj h1,aj h2,Result.andThen_ok];rfl
 ·rename_i s h1 h2
  exact .of_pure f fun w=>by simp only[convert,Sem.run_bind,aj h1,aj h2,Result.andThen_ok];rfl
 ·rename_i e a n c h1 h2
  cases hu:Jb P e with
  |false=>rw[hu]at f;exact f.elim
  |true=>
   rw[hu]at f;obtain⟨s,t,y⟩:=f;refine⟨_,_,y,t,fun w o=>?_⟩
   rw[run_convert_bytes_string w j g e a n c h1 (Dy hu) h2];obtain⟨q,o⟩:=o;rcases o with p|⟨b,rfl,u⟩
   ·have m:s=ByteArray.empty:=by
     have:s.data.toList= []:=by simpa[de]using p
     cases s with
     |mk d=>simp at this;subst this;rfl
    cases a with
    |none=>rw[m];rfl
    |some b=>
     have z:n=0:=by rw[←q,p];rfl
     subst z;have:=G0 (P:=P) (w:=w) (a:=b) (vs:= []) fun i v f=>by simp at f
     rw[run_bytesToString w b 0 c [] (by simpa using this),m];rfl
   ·have:=G0 (P:=P) u
    rw[q]at this;rw[run_bytesToString w b n c (s.data.toList.map fun b=>((b.toNat:Nat):Int)) (by rw[this,fp];rfl),DY]
    cases s;simp[ByteArray.empty,ByteArray.emptyWithCapacity];try rfl
 ·exact f.elim
theorem IT{u:TypeId}{cs:Array Value}{off:Nat}{K:RK}{h:ac}(f:∃d,P.underlying u=some d)(c:∃i,P.info? u=some i)
  (b:bif vj P u then K (.agg ((cs.toList.drop off).take (bq P u)).toArray) none else(match cs.toList[off]? with|some v=>K v none|none=>False)):Yv P (part u cs off) K h:=by
 obtain⟨i,c⟩:=c;cases ha:vj P u with
 |true=>
  rw[ha]at b;refine .of_pure b fun w=>?_
  have g:(sizeOf u).run P w=.ok (bq P u) w:=by simp[sizeOf,cf c,bq,c]
  simp only[part,Sem.run_bind,vi c f,Result.andThen_ok,ha,if_true,g,Sem.run_pure];congr 2
  apply cq;simp[fI]
 |false=>
  rw[ha]at b;simp only[cond_false]at b;cases hc:cs.toList[off]? with
  |none=>rw[hc]at b;exact b.elim
  |some v=>
   rw[hc]at b;refine .of_pure b fun w=>?_
   have e:cs[off]? =some v:=by simpa using hc
   simp only[part,Sem.run_bind,vi c f,Result.andThen_ok,ha,cE,if_false,e,Sem.run_pure]
def vG(P:Program)(v:Option Value)(d y n:Nat):Prop:=
 match v with
 |some x=>∀c w,(Instr.sliceBound x y c).run P w=.ok n w
 |none=>n=d
theorem lJ{v:Option Value}{d y:Nat}{K:Nat→Prop}(b:NO v d y K):∃n,K n∧vG P v d y n:=by
 unfold NO at b;split at b
 ·exact⟨d,b,rfl⟩
 ·rename_i k i
  obtain⟨⟨e,g⟩,f⟩:=b;refine⟨i.toNat,f,fun c w=>?_⟩
  simp[Instr.sliceBound,asIntOf,e,g]
 ·exact b.elim
theorem pe{e:Bool}{len cap n l:Nat}{lo d:Option Value}(c:vG P d len cap n)(b:vG P lo 0 n l)(w:World):
  (Instr.sliceBounds e len cap lo d none).run P w=.ok (l,n,cap) w:=by
 cases d with
 |none=>
  cases lo with
  |none=>simp only[vG]at c b;subst c;subst b;simp[Instr.sliceBounds]
  |some lo=>simp only[vG]at c b;subst c;simp[Instr.sliceBounds,b]
 |some d=>
  cases lo with
  |none=>simp only[vG]at c b;subst b;simp[Instr.sliceBounds,c]
  |some lo=>simp only[vG]at c b;simp[Instr.sliceBounds,c,b]
theorem AQ{d:Bool}{len cap n l m:Nat}{lo:Option Value}{e f:Value}(hm:vG P (some f) 0 cap m)(c:vG P (some e) 0 m n)(b:vG P lo 0 n l)(w:World):
  (Instr.sliceBounds d len cap lo (some e) (some f)).run P w=.ok (l,n,m) w:=by
 cases lo with
 |none=>simp only[vG]at hm c b;subst b;simp[Instr.sliceBounds,hm,c]
 |some lo=>simp only[vG]at hm c b;simp[Instr.sliceBounds,hm,c,b]
theorem yn(a:Option Addr)(l m size:Nat):(if m=l then a else a.map (·.add (l*size)))=aS a l m size:=by
 unfold aS;split
 ·rfl
 ·congr 1;funext x;rw[ue]
theorem pg{t:TypeId}{K:Prop}(h:MK P t K):K∧∀w,(sizeOf t).run P w=.ok (bq P t) w:=by
 unfold MK at h;cases hi:P.info? t with
 |none=>rw[hi]at h;exact h.elim
 |some i=>rw[hi]at h;exact⟨h,fun w=>by simp[sizeOf,cf hi,bq,hi]⟩
theorem FM{t:TypeId}{x:Value}{f:Nat}{K:RK}{h:ac}(b:IJ P t x f K):Yv P (Instr.field t x f) K h:=by
 unfold IJ at b;split at b
 ·rename_i u off cs hf
  obtain⟨m,g,i,d,rfl,rfl⟩:=wr hf;cases hb:((P.underlying g.type).isSome&&(P.info? g.type).isSome)with
  |false=>rw[hb]at b;exact b.elim
  |true=>
   rw[hb]at b;simp only[aH,f7]at hb;obtain⟨v,S,k,c,j⟩:=IT (cs:=cs) (off:=g.offset) (h:=h) hb.1 hb.2 b;refine⟨v,S,k,c,fun w e=>?_⟩
   have:=j w e;simp only[Instr.field,Sem.run_bind,aj i,Result.andThen_ok,d,asAgg,Sem.run_pure,this]
 ·exact b.elim
theorem AW{t:TypeId}{x i:Value}{K:RK}{h:ac}(c:yw P t x i K):Yv P (Instr.indexAt t x i) K h:=by
 unfold yw at c;split at c
 ·rename_i n e a k i hu
  obtain⟨⟨⟨d,g⟩,f⟩,j⟩:=pg c;refine .of_pure f fun w=>?_
  simp[Instr.indexAt,asIntOf,aj hu,Instr.sureAddr,d,g,j,ue]
 ·rename_i e b len cap k i hu
  obtain⟨⟨⟨d,g⟩,a,rfl,f⟩,j⟩:=pg c;refine .of_pure f fun w=>?_
  simp[Instr.indexAt,asIntOf,aj hu,d,g,j,ue]
 ·exact c.elim
theorem FL{t:TypeId}{x i:Value}{K:RK}{h:ac}(c:II P t x i K):Yv P (Instr.index t x i) K h:=by
 unfold II at c;split at c
 ·rename_i s k i hu
  obtain⟨b,d,f,e⟩:=c;refine .of_pure e fun w=>?_
  simp[Instr.index,asIntOf,aj hu,d,f]
 ·exact c.elim
theorem FJ{t:TypeId}{x:Value}{lo g f:Option Value}{K:RK}{h:ac}(b:IG P t x lo g f K):Yv P (Instr.sliceAt t x lo g f) K h:=by
 unfold IG at b;split at b
 ·rename_i s hu
  cases f with
  |some _=>exact b.elim
  |none=>
   obtain⟨n,b,d⟩:=lJ (P:=P) b;obtain⟨l,b,c⟩:=lJ (P:=P) b;refine .of_pure b fun w=>?_
   simp[Instr.sliceAt,Instr.slice,aj hu,pe d c]
 ·rename_i e a len cap hu
  obtain⟨b,i⟩:=pg b;cases f with
  |none=>
   obtain⟨n,b,d⟩:=lJ (P:=P) b;obtain⟨l,b,c⟩:=lJ (P:=P) b;refine .of_pure b fun w=>?_
   simp[Instr.sliceAt,Instr.slice,aj hu,pe d c,i,yn]
  |some m=>
   cases g with
   |none=>exact b.elim
   |some g=>
    obtain⟨k,b,hm⟩:=lJ (P:=P) b;obtain⟨n,b,d⟩:=lJ (P:=P) b;obtain⟨l,b,c⟩:=lJ (P:=P) b;refine .of_pure b fun w=>?_
    simp[Instr.sliceAt,Instr.slice,aj hu,AQ hm d c,i,yn]
 ·rename_i n e a hu
  obtain⟨b,i⟩:=pg b;cases f with
  |some _=>exact b.elim
  |none=>
   obtain⟨m,b,d⟩:=lJ (P:=P) b;obtain⟨l,b,c⟩:=lJ (P:=P) b;refine .of_pure b fun w=>?_
   have j:(some (if n=l then a else a.add (l*bq P e)))=aS (some a) l n (bq P e):=by
    rw[←yn];split<;>rfl
   simp[Instr.sliceAt,aj hu,Instr.sureAddr,pe d c,i,j]
 ·exact b.elim
def oD(d:TypeDesc)(c:CK):Prop:=(∃i,d=.int i∧c=.int i)∨(d=.string∧c=.str)∨(d=.bool∧c=.bool)
theorem vY{t:TypeId}{c:CK}{e:TypeId}(h:Hp P t=some (c,e)):∃k d,P.underlying t=some (.map k e)∧P.underlying k=some d∧oD d c:=by
 unfold Hp at h;split at h
 ·rename_i k e' hu
  split at h
  ·rename_i i hk
   simp only[bD.injEq,oK.injEq]at h;obtain⟨rfl,rfl⟩:=h;exact⟨k,_,hu,hk,.inl ⟨i,rfl,rfl⟩⟩
  ·rename_i hk
   simp only[bD.injEq,oK.injEq]at h;obtain⟨rfl,rfl⟩:=h;exact⟨k,_,hu,hk,.inr (.inl ⟨rfl,rfl⟩)⟩
  ·rename_i hk
   simp only[bD.injEq,oK.injEq]at h;obtain⟨rfl,rfl⟩:=h;exact⟨k,_,hu,hk,.inr (.inr ⟨rfl,rfl⟩)⟩
  ·cases h
 ·cases h
theorem BT{d:TypeDesc}{c:CK}(hd:oD d c)(x y:c.den):Instr.sameNow d (c.enc x) (c.enc y)=some (fg (c.enc x) (c.enc y)):=by
 rcases hd with⟨i,rfl,rfl⟩|⟨rfl,rfl⟩|⟨rfl,rfl⟩
 ·simp[Instr.sameNow,CK.enc,fg]
 ·simp[Instr.sameNow,CK.enc,fg]
 ·simp[Instr.sameNow,CK.enc,fg]
theorem B2{d:TypeDesc}{c:CK}(hd:oD d c)(x:c.den):∀(es:List MapEntry) (i:Nat),keysOf c es→
  ∃r,Instr.findNow d (c.enc x) es i=some r∧r.map (·.2)=DF (c.enc x) es
 | [],i,_=>⟨none,rfl,rfl⟩
 |e::es,i,h=>by
  obtain⟨y,g⟩:=h e (by simp);have f:=BT hd x y;rw[←g]at f;simp only[Instr.findNow,DF];cases hb:fg (c.enc x) e.key with
  |true=>rw[f,hb];exact⟨some (i,e.val),rfl,rfl⟩
  |false=>rw[f,hb];exact B2 hd x es (i+1) fun j b=>h j (by simp[b])
theorem HK{empty:Bool}{k:TypeId}{d:TypeDesc}{c:CK}(hd:oD d c)(b:P.underlying k=some d)(v:Value)(n:Nat)(w:World):(Instr.checkKey empty (n+1) k v).run P w=.ok () w:=by
 unfold Instr.checkKey;simp only[Sem.run_bind,aj b,Result.andThen_ok];rcases hd with⟨i,rfl,rfl⟩|⟨rfl,rfl⟩|⟨rfl,rfl⟩<;>rfl
theorem u0{k:TypeId}{d:TypeDesc}{c:CK}(hd:oD d c)(e:P.underlying k=some d)(x:c.den){es:List MapEntry}(h:keysOf c es)(w:World):
  ∃r,(Instr.findKey k (c.enc x) es).run P w=.ok r w∧Instr.findNow d (c.enc x) es 0=some r∧r.map (·.2)=DF (c.enc x) es:=by
 obtain⟨r,b,hm⟩:=B2 hd x es 0 h;refine⟨r,?_,b,hm⟩;simp only[Instr.findKey,Sem.run_bind,aj e,Result.andThen_ok,b,Sem.run_pure]
theorem kQ{w:World}{r:Nat}{es:Array MapEntry}{b:Nat}(h:w.heap[r]? =some (.map es b)):(getObj r).run P w=.ok (.map es b) w:=by
 simp only[getObj,Sem.run,h]
theorem mw{empty:Bool}{k:TypeId}{d:TypeDesc}{c:CK}(hd:oD d c)(b:P.underlying k=some d)(v:Value)(w:World):(Instr.checkKey empty 10000 k v).run P w=.ok () w:=
 HK hd b v 9999 w
theorem IZ{t:TypeId}{c:CK}{e k:TypeId}{d:TypeDesc}(s:P.underlying t=some (.map k e))(i:P.underlying k=some d)(hd:oD d c){m:Option Nat}{x:c.den}{z v:Value}{b q:Bool}{w:World}
  (u:(zeroValue e).run P w=.ok z w)(hm:qu c z w.heap m (c.enc x) v b):
  (Instr.lookup t (.map m) (c.enc x) q).run P w=.ok (bif q then .tuple #[v,.bool b]else v) w:=by
 cases m with
 |none=>
  obtain⟨rfl,rfl⟩:=hm;simp only[Instr.lookup,Sem.run_bind,aj s,Result.andThen_ok,Sem.run_pure,mw hd i];obtain⟨r,o,p,f⟩:=u0 (P:=P) hd i x (es:= []) (fun _ h=>by cases h) w
  simp only[Instr.findNow,bD.injEq]at p;subst p;simp[o,u]
 |some r=>
  obtain⟨es,n,y,j,g⟩:=hm;simp only[Instr.lookup,Sem.run_bind,aj s,Result.andThen_ok,kQ y,Sem.run_pure,mw hd i];obtain⟨r,o,p,f⟩:=u0 (P:=P) hd i x j w;simp only[o,Result.andThen_ok];cases r with
  |none=>
   simp only[Option.map_none]at f;rw[←f]at g;obtain⟨rfl,rfl⟩:=g;simp[u]
  |some r=>
   simp only[mN]at f;rw[←f]at g;obtain⟨rfl,rfl⟩:=g;cases q<;>rfl
theorem dP{e:TypeId}{z:Value}(h:xP P e=some z)(w:World):(zeroValue e).run P w=.ok z w:=by
 unfold xP at h;cases hi:P.info? e with
 |none=>rw[hi]at h;cases h
 |some i=>rw[hi]at h;simp only at h;simp[zeroValue,cf hi,h]
theorem Ep{t:TypeId}{x k:Value}{g:Bool}{K:RK}{h:ac}(f:FK P t x k g K h):Yv P (Instr.lookup t x k g) K h:=by
 unfold FK at f;split at f
 ·rename_i c e m hc
  obtain⟨q,d,n,o,hd⟩:=vY hc;obtain⟨p,rfl,f⟩:=CK.dec_sound f;split at f
  ·rename_i ek z hek hz
   obtain⟨y,b,hm,j⟩:=f;exact⟨_,_,j,hm,fun w i=>IZ n o hd (dP hz w) i⟩
  ·exact f.elim
 ·exact f.elim
theorem BV{w:World}{b cap s q:Nat}{buf:Array Value}{c t:Bool}(h:w.heap[b]? =some (.chan cap buf c s q t)):(getObj b).run P w=.ok (.chan cap buf c s q t) w:=by
 simp only[getObj,Sem.run,h]
theorem IH{t:TypeId}{x:Value}{ats:Array TypeId}{ty:TypeId}{K:RK}{h:ac}(d:ats[0]? =some t) (f:PR P t x K h):Yv P (Builtin.len_ ats ty #[x]) K h:=by
 unfold PR at f;split at f
 ·rename_i s hu
  exact .of_pure f fun w=>by simp[Builtin.len_,d,aj hu,goInt]
 ·rename_i n e _ hu
  exact .of_pure f fun w=>by simp[Builtin.len_,d,aj hu,goInt]
 ·rename_i e b n c hu
  exact .of_pure f fun w=>by simp[Builtin.len_,d,aj hu,goInt]
 ·rename_i k e m hu
  obtain⟨n,hm,j⟩:=f;refine⟨_,_,j,hm,fun w g=>?_⟩
  cases m with
  |none=>
   have:n=0:=g;subst this;simp[Builtin.len_,d,aj hu,goInt]
  |some r=>
   obtain⟨es,i,o,rfl⟩:=g;simp[Builtin.len_,d,aj hu,goInt,kQ o]
 ·rename_i k e m hu
  obtain⟨n,hm,j⟩:=f;refine⟨_,_,j,hm,fun w g=>?_⟩
  cases m with
  |none=>
   have:n=0:=g;subst this;simp[Builtin.len_,d,aj hu,goInt]
  |some r=>
   obtain⟨cap,buf,p,s,q,o,rfl⟩:=g;simp[Builtin.len_,d,aj hu,goInt,BV o]
 ·exact f.elim
theorem IK{t:TypeId}{x:Value}{ats:Array TypeId}{ty:TypeId}{K:RK}{h:ac}(d:ats[0]? =some t) (f:PS P t x K h):Yv P (Builtin.cap_ ats ty #[x]) K h:=by
 unfold PS at f;split at f
 ·rename_i e b n c hu
  exact .of_pure f fun w=>by simp[Builtin.cap_,d,aj hu,goInt]
 ·rename_i k e m hu
  obtain⟨n,hm,i⟩:=f;refine⟨_,_,i,hm,fun w g=>?_⟩
  cases m with
  |none=>
   have:n=0:=g;subst this;simp[Builtin.cap_,d,aj hu,goInt]
  |some r=>
   obtain⟨cap,buf,o,s,q,j,rfl⟩:=g;simp[Builtin.cap_,d,aj hu,goInt,BV j]
 ·exact f.elim
theorem zA{c:Bool}{k:IntKind}:∀{vs:List Value} {a:Int} {f:Value→Prop},F0 c k a vs f→∃v,f v∧∀w,(vs.foldlM (bif c then Builtin.max2 else Builtin.min2) (Value.int k a):Sem Value).run P w=.ok v w
 | [],a,f,h=>⟨_,h,fun w=>by simp⟩
 | .int k' b::vs,a,f,h=>by
  simp only[F0]at h;cases hk:F8 k' k with
  |false=>rw[hk]at h;exact h.elim
  |true=>
   rw[hk]at h;have:=zI hk;subst this;obtain⟨v,e,d⟩:=zA h;refine⟨v,e,fun w=>?_⟩
   rw[←d w];cases c<;>simp[List.foldlM_cons,Builtin.max2,Builtin.min2]
theorem xU{b:Bool}{vs:List Value}{f:Value→Prop}{ats:Array TypeId}{ty:TypeId}(h:CO b vs f):∃v,f v∧∀w,(bif b then Builtin.max_ ats ty vs.toArray else Builtin.min_ ats ty vs.toArray).run P w=.ok v w:=by
 unfold CO at h;split at h
 ·obtain⟨v,d,c⟩:=zA (P:=P) h
  refine⟨v,d,fun w=>?_⟩
  have:=c w;cases b<;>simpa[Builtin.max_,Builtin.min_]using this
 ·exact h.elim
theorem Ln{a:Addr}{e:MapEntry}{w:World}(g:a.off=0)(h:wN w.heap a.block e):(Instr.entry (.pointer (some a))).run P w=.ok (.tuple #[e.key,e.val]) w:=by
 obtain⟨m,c,d,last,f,es,j,o,hm,n⟩:=h;obtain⟨b,off,i⟩:=a;simp only at g j;subst g;have k:(getObj b).run P w=.ok (.mapIter (some m) c d last) w:=by simp only[getObj,Sem.run,j]
 simp[Instr.entry,k,o,kQ hm,n]
def EJ:DV→Value→Prop
 | .t,v=>v=.bool true
 | .f,v=>v=.bool false
 | .u,v=>v=undef
 | .x,_=>True
def DecOk(d:uS)(r:bP):Prop:=∀t,qS d t=.x∨∃v,jr r t=some v∧EJ (qS d t) v
theorem DecOk.at{d:uS}{r:bP}(h:DecOk d r){t:Nat}{v:Value}(f:jr r t=some v):EJ (qS d t) v:=by
 rcases h t with e|⟨u,b,c⟩
 ·rw[e];trivial
 ·rw[f]at b;cases b;exact c
theorem ux{d:uS}{r:bP}(hd:DecOk d r){o:Operand}{v:Value}(h:cC r o=some v):EJ (zP d o) v:=by
 cases o with
 |tmp t=>exact hd.at h
 |const c=>
  simp[cC]at h;subst h;cases c with
  |bool b=>cases b<;>exact rfl
  |_=>trivial
 |global g=>trivial
 |func f=>trivial
theorem B0{t:TypeId}(h:pN P t=true):∃d,P.underlying t=some d∧∀m,d≠ .interface m:=by
 unfold pN at h;split at h
 ·cases h
 ·rename_i d hd;exact⟨_,hd,fun m e=>by subst e;simp_all⟩
 ·cases h
theorem zF{t:TypeId}{v:Value}(h:pN P t=true)(w:World):(Instr.makeInterface t v).run P w=.ok (.iface t v) w:=by
 obtain⟨d,hd,b⟩:=B0 h;simp only[Instr.makeInterface,Sem.run_bind,aj hd,Result.andThen_ok];cases d<;>first|exact absurd rfl (b _)|rfl
theorem C5{t u:TypeId}{v:Value}(h:pN P t=true)(w:World):(Instr.typeAssert (.iface t v) u t false).run P w=.ok v w:=by
 obtain⟨d,hd,b⟩:=B0 h;simp only[Instr.typeAssert,Sem.run_bind,aj hd,Result.andThen_ok];cases d<;>first|exact absurd rfl (b _)|(simp[Sem.run_pure])
theorem jp{t:TypeId}{z:List Value}(h:qn P t=some z):∃v,xP P t=some v∧v.cells.toList=z:=by
 unfold qn at h;cases hz:xP P t with
 |none=>rw[hz]at h;cases h
 |some v=>rw[hz]at h;simp only[bD.injEq]at h;exact⟨v,rfl,h⟩
theorem rq{t:TypeId}{v:Value}(h:xP P t=some v):∃i,P.info? t=some i∧i.zero=some v:=by
 unfold xP at h;cases hi:P.info? t with
 |none=>rw[hi]at h;cases h
 |some i=>rw[hi]at h;exact⟨i,rfl,h⟩
theorem ND{A B:List Value}{x:Value}{m:Nat}(h:A.length=m):(A++x::B).take (m+1)=A++ [x]:=by
 subst h;rw[List.take_append,bI (by omega),show A.length+1-A.length=1 by omega];rfl
theorem NF{A B:List Value}{x:Value}{m n:Nat}(h:A.length=m):(A++x::B).drop (m+1+n)=B.drop n:=by
 subst h;rw[List.drop_append,List.drop_eq_nil_of_le (by omega),show A.length+1+n-A.length=n+1 by omega];rfl
theorem HA(off:Nat):∀(xs:List Value) (k:Nat) (arr:Array Value),off+k+xs.length≤arr.size→
  (xs.zipIdx k).foldl (fun cs (c,j)=>cs.setIfInBounds (off+j) c) arr=(Hb arr.toList (off+k) xs).toArray
 | [],k,arr,_=>by simp[Hb]
 |x::xs,k,arr,h=>by
  simp only[aX]at h;simp only[List.zipIdx_cons,List.foldl_cons];rw[HA off xs (k+1) _ (by simp;omega)];have hm:off+k<arr.toList.length:=by simp;omega
  have d:arr.toList.set (off+k) x=arr.toList.take (off+k)++x::arr.toList.drop (off+k+1):=by
   rw[List.set_eq_take_append_cons_drop,if_pos hm]
  have b:(arr.toList.take (off+k)).length=off+k:=by simp;omega
  congr 1
  unfold Hb;rw[Array.toList_setIfInBounds,d,←Nat.add_assoc,ND b,NF b];simp only[List.append_assoc,lR,List.nil_append,aX,List.drop_drop];rw[show off+k+1+xs.length=off+k+(xs.length+1) by omega]
theorem ta{b:Nat→Option (Nat×Nat)}:∀(parts:List (Nat×Value)) (cs cs':List Value),B5 b cs parts=some cs'→Instr.fill b cs.toArray parts=some cs'.toArray
 | [],cs,cs',h=>by simp only[B5,bD.injEq]at h;subst h;rfl
 |(i,v)::rest,cs,cs',h=>by
  simp only[B5]at h;cases hp:b i with
  |none=>rw[hp]at h;cases h
  |some os=>
   obtain⟨off,size⟩:=os;rw[hp]at h;simp only at h;cases hb:(aW v.cells.toList.length size&&xt (off+v.cells.toList.length) cs.length)with
   |false=>rw[hb]at h;cases h
   |true=>
    rw[hb]at h;simp only[aH]at hb;have g:=aG hb.1;have j:=ic hb.2;have f:=ta rest _ _ h;have e:v.cells.size=size:=by simpa using g
    have c:off+v.cells.size≤cs.length:=by simpa using j
    have d:Array.foldl (fun cs x=>cs.setIfInBounds (off+x.2) x.1) cs.toArray v.cells.zipIdx=(Hb cs off v.cells.toList).toArray:=by
     have:=HA off v.cells.toList 0 cs.toArray (by simpa using c);simp only[jI]at this;rw[←this,←Array.foldl_toList];congr 1
     simp[Array.toList_zipIdx]
    simp only[Instr.fill,hp];rw[if_neg (by simp[e];omega)];simp only[d];exact f
theorem nZ{N:Nat}{r:bP}{a:Act}(h:Agree N r a):∀{ps:List (Nat×Operand)} {vs:List (Nat×Value)},pM r ps=some vs→ps.map (fun p=>(p.1,a.eval p.2))=vs
 | [],vs,hv=>by simp[pM]at hv;subst hv;rfl
 |(i,o)::ps,vs,hv=>by
  simp only[pM]at hv;cases ho:cC r o with
  |none=>simp[ho]at hv
  |some v=>cases hos:pM r ps with
   |none=>simp[ho,hos]at hv
   |some us=>simp[ho,hos]at hv;subst hv;simp[js h ho,nZ h hos]
theorem pP{t:TypeId}(h:xn P t=true)(w:World):(sizeOf t).run P w=.ok (bq P t) w:=by
 unfold xn at h;cases hi:P.info? t with
 |none=>rw[hi]at h;cases h
 |some i=>simp[sizeOf,cf hi,bq,hi]
theorem Dp(w:World):∀l:List Field,zV P l=true→(l.mapM fun f:Field=>((do pure (f.offset,←sizeOf f.type)):Sem (Nat×Nat))).run P w=.ok (l.map fun f:Field=>(f.offset,bq P f.type)) w
 | [],_=>rfl
 |f::l,h=>by
  simp only[zV]at h;cases hf:xn P f.type with
  |false=>rw[hf]at h;cases h
  |true=>
   rw[hf]at h;rw[List.mapM_cons];simp only[Sem.run_bind,pP hf,Result.andThen_ok,Sem.run_pure,Dp w l h,aY]
theorem zT{t:TypeId}{ps:Array (Nat×Value)}{cs:List Value}(b:Gk P t ps.toList=some cs)(w:World):
  (Instr.build t ps).run P w=.ok (.agg cs.toArray) w:=by
 unfold Gk at b;split at b
 ·rename_i fs z hu g
  obtain⟨v,g,k⟩:=jp g;cases ha:zV P fs.toList with
  |false=>rw[ha]at b;cases b
  |true=>
   rw[ha]at b;have m:(fs.mapM fun f:Field=>((do pure (f.offset,←sizeOf f.type)):Sem (Nat×Nat))).run P w=.ok (fs.map fun f:Field=>(f.offset,bq P f.type)) w:=by
    rw[Array.mapM_eq_mapM_toList];simp only[Sem.run_map,Dp w fs.toList ha,Result.andThen_ok];congr 1
    apply cq;simp
   have j:=ta _ _ _ b;have c:(fun i:Nat=>(fs.map fun f:Field=>(f.offset,bq P f.type))[i]?)=IS P fs.toList:=by
    funext i;unfold IS;rw[Array.getElem?_map,aN];cases fs[i]?<;>rfl
   have d:v.cells=z.toArray:=by rw[←k]
   rw[cond_true]at b;rw[←c]at j;simp only[Instr.build,Sem.run_bind,dP g,Result.andThen_ok,aj hu,m,d,j,Sem.run_pure]
 ·rename_i n e z hu g
  obtain⟨v,g,k⟩:=jp g;cases ha:xn P e with
  |false=>rw[ha]at b;cases b
  |true=>
   rw[ha]at b;have j:=ta _ _ _ b;have d:v.cells=z.toArray:=by rw[←k]
   simp only[Instr.build,Sem.run_bind,dP g,Result.andThen_ok,aj hu,pP ha,d,j,Sem.run_pure]
 ·cases b
theorem AV{ek:Option (Kind×Kind)}{o:Oper}{r:bP}{K:RK}{h:ac}{N:Nat}{a:Act}(R:Agree N r a)(g:AG P ek o.op r K h)(d:uS)(hd:DecOk d r):
  ∃v S,K v S∧NY S h∧EJ (GD d o.op) v∧∀w:World,NY S w.heap→(execOp a.eval o).run P w=.ok (.value v) w:=by
 have j:∀{x:Operand} {v:Value},cC r x=some v→a.eval x=v:=fun h=>js R h
 have fin:∀{s:Sem Value},Yv P s K h→GD d o.op=.x→(∀w,(execOp a.eval o).run P w=(do pure (Next.value (←s)):Sem Next).run P w)→
   ∃v S,K v S∧NY S h∧EJ (GD d o.op) v∧∀w:World,NY S w.heap→(execOp a.eval o).run P w=.ok (.value v) w:=by
  rintro s ⟨v,S,n,A,z⟩ hx E;exact⟨v,S,n,A,by rw[hx];trivial,fun w B=>by rw[E w];exact iy (z w B)⟩
 obtain⟨Q,L,type,pos,G,F⟩:=o;simp only at g fin⊢;cases L with
 |move x=>
  simp only[AG]at g;split at g
  ·rename_i v hv
   exact⟨v,none,g,trivial,ux hd hv,fun w _=>by simp[execOp,j hv]⟩
  ·exact g.elim
 |assign x=>
  simp only[AG]at g;split at g
  ·rename_i v hv
   exact⟨v,none,g,trivial,ux hd hv,fun w _=>by simp[execOp,j hv]⟩
  ·exact g.elim
 |pick c x y=>
  simp only[AG]at g;split at g
  ·rename_i vc va vb hc hx U
   unfold Pq at g;split at g
   ·rename_i cb
    have I:=ux hd hc;have V:=ux hd hx;have hyo:=ux hd U;have E:∀w,(execOp a.eval ⟨Q,.pick c x y,type,pos,G,F⟩).run P w=.ok (.value (if cb then va else vb)) w:=fun w=>by
     simp[execOp,j hc,j hx,j U,asBool]
    have J:EJ (GD d (.pick c x y)) (if cb then va else vb):=by
     simp only[GD];cases hcd:zP d c with
     |t=>
      rw[hcd]at I;have:cb=true:=by simpa[EJ]using I
      subst this;exact V
     |f=>
      rw[hcd]at I;have:cb=false:=by simpa[EJ]using I
      subst this;exact hyo
     |u=>trivial
     |x=>trivial
    split at g
    ·rename_i bx by'
     have O:(if cb=true then Value.bool bx else Value.bool by')=.bool (bif cb then bx else by'):=by cases cb<;>rfl
     rw[O]at J;exact⟨_,none,g,trivial,J,fun w _=>by rw[E w,O]⟩
    ·cases cb
     ·exact⟨_,none,g,trivial,J,fun w _=>E w⟩
     ·exact⟨_,none,g,trivial,J,fun w _=>E w⟩
   ·exact g.elim
  ·exact g.elim
 |load t x=>
  simp only[AG]at g;split at g
  ·rename_i v hv
   obtain⟨u,S,n,A,z⟩:=BX g;exact fin ⟨u,some S,n,A,z⟩ rfl fun w=>by simp only[execOp,j hv]
  ·exact g.elim
 |nilCheck x=>
  simp only[AG]at g;split at g
  ·rename_i p hv
   obtain⟨b,rfl,n⟩:=g;exact⟨_,none,n,trivial,trivial,fun w _=>by simp[execOp,j hv]⟩
  ·exact g.elim
 |binOp L t x y yt=>
  simp only[AG]at g;split at g
  ·rename_i v u hn hv hu
   have go:(∀c d,v=.agg c→u=.agg d→False)∧(v=.nilIface→u=.nilIface→False)∧Yv P (binOp L t v u) K h:=by
    split at g
    ·exact Dr (neg:=false) g
    ·exact Dr (neg:=true) g
    ·exact Dn g
   obtain⟨Z,Y,T,S,n,A,z⟩:=go;refine⟨T,S,n,A,trivial,fun w B=>?_⟩
   simp only[execOp,j hv,j hu];simp[DK L t x y v u Z Y w,z w B]
  ·rename_i v u hn hv hu
   obtain⟨T,S,n,A,z⟩:=IL (x:=x) (y:=y) g;refine⟨T,S,n,A,trivial,fun w B=>?_⟩
   simp only[execOp,j hv,j hu];exact iy (z w B)
  ·rename_i v u hna hn hv hu
   obtain⟨Z,Y,T,S,n,A,z⟩:=Dn g;refine⟨T,S,n,A,trivial,fun w B=>?_⟩
   simp only[execOp,j hv,j hu];simp[DK L t x y v u Z Y w,z w B]
  ·exact g.elim
 |unOp L t x=>
  simp only[AG]at g;split at g
  ·rename_i v hv
   obtain⟨u,S,n,A,z⟩:=KZ (P:=P) (h:=h) g;refine⟨u,S,n,A,?_,fun w B=>by simp only[execOp,j hv];exact iy (z w B)⟩
   have H:=ux hd hv;cases L<;>try trivial
   simp only[GD];have C:=z {(default:World)with heap:=h} A;cases hx:zP d x with
   |t=>
    rw[hx]at H;have:v=.bool true:=H;subst this;simp[Op.unary]at C;exact C.symm
   |f=>
    rw[hx]at H;have:v=.bool false:=H;subst this;simp[Op.unary]at C;exact C.symm
   |u=>trivial
   |x=>trivial
  ·exact g.elim
 |convert s t x=>
  simp only[AG]at g;split at g
  ·rename_i v hv
   exact fin (G8 g) rfl fun w=>by simp only[execOp,j hv]
  ·exact g.elim
 |extract x i=>
  simp only[AG]at g;split at g
  ·rename_i vs hv
   split at g
   ·rename_i u hu
    have X:vs[i]? =some u:=by simpa using hu
    exact⟨u,none,g,trivial,trivial,fun w _=>by simp[execOp,j hv,Instr.extract,X]⟩
   ·exact g.elim
  ·exact g.elim
 |fieldAddr t x f=>
  simp only[AG]at g;split at g
  ·rename_i b u off hv hf
   exact fin (Cx hf g) rfl fun w=>by simp only[execOp,j hv]
  ·exact g.elim
 |field t x f=>
  simp only[AG]at g;split at g
  ·rename_i v hv
   exact fin (FM g) rfl fun w=>by simp only[execOp,j hv]
  ·exact g.elim
 |indexAddr t x i=>
  simp only[AG]at g;split at g
  ·rename_i v u hv hu
   exact fin (AW g) rfl fun w=>by simp only[execOp,j hv,j hu]
  ·exact g.elim
 |index t x i=>
  simp only[AG]at g;split at g
  ·rename_i v u hv hu
   exact fin (FL g) rfl fun w=>by simp only[execOp,j hv,j hu]
  ·exact g.elim
 |slice t x lo hi mx=>
  simp only[AG]at g;split at g
  ·rename_i v l h' m hv hl hh hm
   have W:∀{x:Option Operand} {v:Option Value},E3 r x=some v→x.map a.eval=v:=by
    intro x v hx;cases x with
    |none=>simp[E3]at hx;subst hx;rfl
    |some x=>
     simp only[E3]at hx;cases E:cC r x with
     |none=>simp[E]at hx
     |some u=>simp[E]at hx;subst hx;simp[j E]
   exact fin (FJ g) rfl fun w=>by simp only[execOp,j hv,W hl,W hh,W hm]
  ·exact g.elim
 |lookup t x k ok=>
  simp only[AG]at g;split at g
  ·rename_i v u hv hu
   exact fin (Ep g) rfl fun w=>by simp only[execOp,j hv,j hu]
  ·exact g.elim
 |makeInterface t x=>
  simp only[AG]at g;split at g
  ·rename_i v hv
   cases hb:pN P t with
   |false=>rw[hb]at g;exact g.elim
   |true=>
    rw[hb,cond_true]at g;exact⟨_,none,g,trivial,trivial,fun w _=>by simp only[execOp,j hv];exact iy (zF hb w)⟩
  ·exact g.elim
 |typeAssert x u t ok=>
  simp only[AG]at g;split at g
  ·rename_i v hv
   cases ok with
   |true=>exact g.elim
   |false=>
    rw[cond_false]at g;unfold Kb at g;cases hb:pN P t with
    |false=>rw[hb]at g;exact g.elim
    |true=>
     rw[hb,cond_true]at g;split at g
     ·obtain⟨y,rfl,n⟩:=g
      exact⟨_,none,n,trivial,trivial,fun w _=>by simp only[execOp,j hv];exact iy (C5 hb w)⟩
     ·exact g.elim
  ·exact g.elim
 |makeFunc fn first cap=>
  simp only[AG]at g;split at g
  ·rename_i vs us hv hu
   have O:=lA R hv;have e2:=lA R hu;refine⟨_,none,g,trivial,trivial,fun w _=>?_⟩
   have f1:first.map a.eval=vs.toArray:=by rw[←O];apply cq;simp
   have f2:cap.map a.eval=us.toArray:=by rw[←e2];apply cq;simp
   simp[execOp,Instr.makeFunc,f1,f2]
  ·exact g.elim
 |entry it=>
  simp only[AG]at g;split at g
  ·rename_i b kk vk hv
   obtain⟨h0,e,x,y,hi,n,U,hK⟩:=g;refine⟨_,_,hK,hi,trivial,fun w B=>?_⟩
   simp only[execOp,j hv];refine iy ?_;rw[Ln h0 B,n,U]
  ·exact g.elim
 |call c=>
  simp only[AG]at g;have D:∀{b:Builtin} {vs:List Value},c.callee=.builtin b→mV r c.args.toList=some vs→∃cs:Array Bool,∀w,(execOp a.eval ⟨Q,.call c,type,pos,G,F⟩).run P w=
    (builtin b c.argTypes type cs vs.toArray).run P w:=by
   intro b vs hc q;have O:=lA R q;have f1:c.args.map a.eval=vs.toArray:=by rw[←O];apply cq;simp
   refine⟨c.args.map fun| .const _=>true|_=>false,fun w=>?_⟩
   simp[execOp,resolve,hc,f1,invoke];rfl
  split at g
  ·rename_i v t hc q hat
   obtain⟨cs,D⟩:=D hc q;obtain⟨u,S,n,A,z⟩:=IH (ats:=c.argTypes) (ty:=type) (by rw[←aN,hat];rfl) g;exact⟨u,S,n,A,trivial,fun w B=>by rw[D w];simp only[builtin];exact iy (z w B)⟩
  ·rename_i v t hc q hat
   obtain⟨cs,D⟩:=D hc q;obtain⟨u,S,n,A,z⟩:=IK (h:=h) (ats:=c.argTypes) (ty:=type) (by rw[←aN,hat];rfl) g;exact⟨u,S,n,A,trivial,fun w B=>by rw[D w];simp only[builtin];exact iy (z w B)⟩
  ·rename_i vs hc q
   obtain⟨cs,D⟩:=D hc q;obtain⟨u,n,z⟩:=xU (P:=P) (ats:=c.argTypes) (ty:=type) g;exact⟨u,none,n,trivial,trivial,fun w _=>by rw[D w];simp only[builtin];exact iy (z w)⟩
  ·rename_i vs hc q
   obtain⟨cs,D⟩:=D hc q;obtain⟨u,n,z⟩:=xU (P:=P) (ats:=c.argTypes) (ty:=type) g;exact⟨u,none,n,trivial,trivial,fun w _=>by rw[D w];simp only[builtin];exact iy (z w)⟩
  ·exact g.elim
 |build t ps=>
  simp only[AG]at g;split at g
  ·rename_i vs q
   split at g
   ·rename_i cs hcs
    refine⟨_,none,g,trivial,trivial,fun w _=>?_⟩
    have hp:(ps.map fun x=>(x.1,a.eval x.2))=vs.toArray:=by
     rw[←nZ R q];apply cq;simp
    have E:=zT (ps:=vs.toArray) (by simpa using hcs) w;simp only[execOp];rw[show(ps.map fun(i,x)=>(i,a.eval x))=vs.toArray from hp]
    exact iy E
   ·exact g.elim
  ·exact g.elim
 |_=>simp only[AG]at g
end Go.Lift
namespace Go.Lift
open Go
variable {P:Program}
def HP(P:Program)(s:Sem Next)(K:WK)(w:World):Prop:=
 (∃v w',s.run P w=.ok (.value v) w'∧Tame w w'∧K v w'.heap)∨
 (∃w',s.run P w=.ok .skip w'∧Tame w w'∧K undef w'.heap)∨
 (∃f args,s.run P w=.ok (.enter f args) w∧Calls P f args w fun e w'=>Tame w w'∧∃v,e=.returned v∧K v w'.heap)∨
 (∃l fn tmps assign body,s.run P w=.ok (.round l fn tmps assign body) w∧
  ∀(c:Frame) (cs:List Frame),∃b w',Tame w w'∧K (.bool b) w'.heap∧Steps P (lone (Frame.round l fn tmps assign body .normal) (c::cs) w) (lone (c.finish (.bool b)) cs w'))
def Wv(P:Program)(s:Sem Value)(K:WK)(w:World):Prop:=∃v w',s.run P w=.ok v w'∧Tame w w'∧K v w'.heap
theorem Wv.out{s:Sem Value}{K:WK}{w:World}(h:Wv P s K w):HP P (do pure (Next.value (←s))) K w:=by
 obtain⟨v,w',b,d,c⟩:=h;exact .inl ⟨v,w',iy b,d,c⟩
def Wu(P:Program)(s:Sem Unit)(K:WK)(w:World):Prop:=∃w',s.run P w=.ok () w'∧Tame w w'∧K undef w'.heap
theorem Wu.out{s:Sem Unit}{K:WK}{w:World}(h:Wu P s K w):HP P (do s;pure Next.skip) K w:=by
 obtain⟨w',b,d,c⟩:=h;exact .inr (.inl ⟨w',Mx b,d,c⟩)
def jq(w:World)(h:ac):World:={w with heap:=h}
theorem dG(w:World)(h:ac):Tame w (jq w h):=⟨rfl,rfl,rfl⟩
theorem jB(e:TypeId)(cs:Array Value)(w:World):(newRow e cs).run P w=.ok (aV w.heap) (jq w (hnew w.heap cs.toList e)):=by
 simp[newRow,newObj,Sem.run,aV,jq,hnew,bind,Sem.bind,pure]
theorem Di(o:Obj)(w:World):(newObj o).run P w=.ok w.heap.size (jq w (w.heap.push o)):=rfl
theorem Ev{h:ac}{a b:Addr}(v:Value)(c:a≠b):aB (hset h a v) b=aB h b:=
 World.cell?_setCell_other {(default:World)with heap:=h} a b v c
theorem Cw{h:ac}{a:Addr}{u:Value}(v:Value)(hc:aB h a=some u):aB (hset h a v) a=some v:=
 World.cell?_setCell_same {(default:World)with heap:=h} a v hc
theorem Ga{h:ac}{a b:Addr}(v:Value):CT (hset h a v) b=CT h b:=
 World.frozen?_setCell {(default:World)with heap:=h} a b v
theorem Wr.hset{h:ac}{a b:Addr}(v:Value)(d:Wr h b):Wr (hset h a v) b:=by
 obtain⟨⟨u,c⟩,f⟩:=d;refine⟨?_,by rw[Ga];exact f⟩
 by_cases e:a=b
 ·subst e;exact⟨v,Cw v c⟩
 ·exact⟨u,by rw[Ev v e];exact c⟩
theorem Iz{w:World}{a:Addr}{v:Value}(i:∀cs,v≠ .agg cs)(b:∀cs,v≠ .tuple cs)(e:Wr w.heap a):(store a v).run P w=.ok () (jq w (hset w.heap a v)):=by
 obtain⟨⟨u,f⟩,g⟩:=e;have c:w.cell? a=some u:=f;have d:w.frozen? a=false:=g;cases v<;>first|exact absurd rfl (i _)|exact absurd rfl (b _)|(simp only[store,Sem.run,c,d];rfl)
theorem FU{v:Value}{vs:List Value}(h:bL (v::vs)=true):(∀cs,v≠ .agg cs)∧(∀cs,v≠ .tuple cs)∧bL vs=true:=by
 simp only[bL,aH]at h;refine⟨fun cs e=>?_,fun cs e=>?_,h.2⟩<;>(subst e;exact absurd h.1 (by simp))
theorem rI{a:Addr}:∀(vs:List Value) (i:Nat) (w:World),bL vs=true→(∀j,j<vs.length→Wr w.heap (adr a (i+j)))→
  (storeCells a vs i).run P w=.ok () (jq w (ii w.heap a i vs))
 | [],i,w,_,_=>rfl
 |v::vs,i,w,b,hw=>by
  obtain⟨f,e,b⟩:=FU b;have c:=hw 0 (by simp);simp only[jI]at c;have d:a.add i=adr a i:=(ue a i).symm;simp only[storeCells,d,Sem.run_bind,Iz f e c,Result.andThen_ok];rw[rI vs (i+1) (jq w (hset w.heap (adr a i) v)) b fun j g=>?_]
  ·rfl
  ·have:=hw (j+1) (by simp only[aX];omega)
   rw[show i+1+j=i+(j+1) by omega]
   exact this.hset v
theorem Fb{a:Addr}(m:Nat):∀(vs:List Value) (i:Nat) (h:ac),ii h (adr a m) i vs=ii h a (m+i) vs
 | [],_,_=>rfl
 |v::vs,i,h=>by
  simp only[ii];rw[Fb m vs (i+1),zY];rfl
theorem Fz{t:TypeId}{a v:Value}{K:WK}{w:World}(c:Ic P t a v K w.heap):Wu P (Instr.storeAt t a v) K w:=by
 unfold Ic at c;split at c
 ·rename_i a
  cases hb:(aW v.cells.toList.length (bq P t)&&bL v.cells.toList)with
  |false=>rw[hb]at c;exact c.elim
  |true=>
   rw[hb]at c;simp only[aH]at hb;have n:=aG hb.1;obtain⟨c,o⟩:=pg c;have g:v.cells.size=bq P t:=by simpa using n
   have m:(∀j,j<v.cells.toList.length→Wr w.heap (adr a (0+j)))→(Instr.storeAt t (.pointer (some a)) v).run P w=.ok () (jq w (ii w.heap a 0 v.cells.toList)):=by
    intro d;have:=rI (P:=P) v.cells.toList 0 w hb.2 d;simp[Instr.storeAt,Instr.sureAddr,storeVar,o,g,this]
   split at c
   ·rename_i u hu
    obtain⟨d,k⟩:=c;refine⟨_,m (fun j f=>?_),dG _ _,?_⟩
    ·rw[hu]at f;simp only[aX,List.length_nil]at f
     obtain rfl:j=0:=by omega
     exact d
    ·rw[hu];exact k
   ·obtain⟨d,k⟩:=c
    refine⟨_,m (fun j f=>?_),dG _ _,k⟩
    rcases d with e|⟨b,i,d⟩
    ·rw[e]at f;cases f
    ·cases i;exact d j f
 ·exact c.elim
theorem i6(z:Array Value)(n:Nat):(Builtin.zeroCells z n).toList=cS n z.toList:=by
 have key:∀n,(List.range (n*z.size)).map (fun i=>z[i%z.size]!)=(eE n z.toList).flatten:=by
  intro n;induction n with
  |zero=>simp
  |succ n ih=>
   rw[Nat.succ_mul,List.range_add,List.map_append,ih,List.replicate_succ',List.flatten_append];congr 1
   simp only[fp,List.flatten_cons,List.flatten_nil,List.append_nil];apply List.ext_getElem
   ·simp
   ·intro i b c
    simp only[List.length_map,List.length_range]at b;simp[Nat.mod_eq_of_lt b,b,Nat.add_mod]
 simpa[Builtin.zeroCells,cS]using key n
theorem cN{t e:TypeId}(h:vt P t=some e):P.underlying t=some (.slice e):=by
 unfold vt at h;split at h
 ·rename_i e' hu;simp only[bD.injEq]at h;subst h;exact hu
 ·cases h
theorem JO{z:Value}{n:Nat}:((Array.range (n*z.cells.size)).map (z.cells[· %z.cells.size]!))=(cS n z.cells.toList).toArray:=by
 have:=i6 z.cells n;unfold Builtin.zeroCells at this;apply cq;rw[this]
theorem Bg{t e:TypeId}{n:Nat}{ps:Array (Nat×Value)}{z cs:List Value}(s:vt P t=some e)(p:qn P e=some z)(y:n*bq P e≤16777216)(j:z.length=bq P e)
  (x:B5 (fun i=>some (i*bq P e,bq P e)) (cS n z) ps.toList=some cs)(w:World):
  (Instr.buildSlice t n ps).run P w=.ok (.slice (some (aV w.heap)) n n) (jq w (hnew w.heap cs e)):=by
 obtain⟨v,m,d⟩:=jp p;obtain⟨i,o,u⟩:=rq m;have q:(sizeOf e).run P w=.ok (bq P e) w:=by simp[sizeOf,cf o,bq,o]
 have f:v.cells.size=bq P e:=by rw[←j,←d];simp
 have k:=ta _ _ _ x;have b:((Array.range (n*bq P e)).map (fun i=>(if n*bq P e=0 then #[]else v.cells)[i%(if n*bq P e=0 then #[]else v.cells).size]!))=(cS n z).toArray:=by
  by_cases c:n*bq P e=0
  ·have:(cS n z).length=0:=by simp[cS,j,c]
   rw[bU.1 this];simp[c]
  ·simp only[if_neg c]
   rw[←f,JO,d]
 have g:¬(n*bq P e>2^24):=by omega
 simp only[Instr.buildSlice,Sem.run_bind,aj (cN s),Result.andThen_ok,q,if_neg g];by_cases c:n*bq P e=0
 ·simp only[if_pos c]at b
  simp only[if_pos c,Sem.run_bind,Sem.run_pure,Result.andThen_ok,b,k,jB]
 ·simp only[if_neg c]at b
  simp only[if_neg c,Sem.run_bind,Sem.run_pure,Result.andThen_ok,dP m,b,k,jB]
theorem KU{h:ac}{a:Addr}{vs:List Value}(b:Row h a vs):∀j v,vs[j]? =some v→aB h (a.add j)=some v:=fun j v c=>by
 rw[←ue];exact b j v c
theorem xh{size n cap len:Nat}{b:Option Addr}{vs:List Value}{w:World}(f:SRow w.heap b (n*size) vs):(Builtin.firstCells size n (.slice b len cap)).run P w=.ok vs.toArray w:=by
 obtain⟨e,c⟩:=f;cases b with
 |none=>
  rcases c with rfl|⟨_,h,_⟩
  ·simp[Builtin.firstCells]
  ·cases h
 |some b=>
  refine run_firstCells_some w size n b len cap vs e fun j v d=>?_
  rcases c with rfl|⟨_,h,c⟩
  ·cases d
  ·cases h;exact KU c j v d
theorem Db{a:Addr}{m:Nat}{xs:List Value}{w:World}(d:bL xs=true)(c:uf w.heap (some a) m xs):
  (storeCells (a.add m) xs).run P w=.ok () (jq w (ii w.heap a m xs)):=by
 rcases c with rfl|⟨b,e,c⟩
 ·rfl
 ·cases e
  have:=rI (P:=P) (a:=adr a m) xs 0 w d fun j f=>by rw[zY,az];exact c j f
  rw[←ue,this,Fb,jI]
set_option maxHeartbeats 1000000 in
theorem D0{t e u ty:TypeId}{b:Option Addr}{sl f d:Nat}{xs:List Value}{x:Value}{K:WK}{w:World}(A:vt P t=some e)(m:(∃y,P.underlying u=some (.slice y))∨P.underlying u=some .string)
  (g:∀w,(Builtin.lenOf x).run P w=.ok d w)(hx:∀w':World,w'.heap=w.heap→(Builtin.firstCells (bq P e) d x).run P w'=.ok xs.toArray w')
  (k:∃i,P.info? e=some i)
  (h:NT P e b sl f d xs K w.heap):Wv P (Builtin.append_ #[t,u] ty #[.slice b sl f,x]) K w:=by
 obtain⟨i,k⟩:=k;have j:bq P e=i.size:=by simp[bq,k]
 have D:qt P e=i.bytes:=by simp[qt,k]
 by_cases hc:sl+d≤f
 ·obtain⟨J,L,C⟩:=h.1 hc
  refine⟨_,_,?_,dG w (eM w.heap b (sl*bq P e) xs),C⟩;cases b with
  |none=>
   have c:=hx w rfl;rw[j]at c;rcases m with⟨y,hd⟩|hd<;>(simp[Builtin.append_,aj (cN A),aj hd,sizeOf,cf k,g,hc,c];rfl)
  |some a=>
   have s:=Db (P:=P) L J;have c:=hx w rfl;rw[j]at s c;rcases m with⟨y,hd⟩|hd<;>(simp[Builtin.append_,aj (cN A),aj hd,sizeOf,cf k,g,hc,c,s,eM,j])
 ·obtain⟨old,z,N,Q,B,G,C⟩:=h.2 (by omega)
  obtain⟨v,I,H⟩:=jp Q;obtain⟨R,q,O⟩:=rq I;rw[k]at q;cases q;rw[D]at B G;have o:¬i.bytes=0:=by omega
  have n:¬(281474976710656<Builtin.nextslicecap (sl+d) f*i.bytes):=by omega
  have c:=hx w.drew rfl;have p:(Builtin.firstCells (bq P e) sl (.slice b sl f)).run P w.drew=.ok old.toArray w.drew:=xh N;rw[j]at c p;have F:sl+d≤(Question.appendCap (sl+d) f e).cut (w.tape w.drawn (.appendCap (sl+d) f e)):=Nat.le_add_right _ _;refine⟨_,jq w.drew (hnew w.heap (old++xs++cS ((Question.appendCap (sl+d) f e).cut (w.tape w.drawn (.appendCap (sl+d) f e))-(sl+d)) z) e),?_,⟨rfl,rfl,rfl⟩,C _ F⟩
  have E:(Builtin.zeroCells v.cells ((Question.appendCap (sl+d) f e).cut (w.tape w.drawn (.appendCap (sl+d) f e))-(sl+d)))=(cS ((Question.appendCap (sl+d) f e).cut (w.tape w.drawn (.appendCap (sl+d) f e))-(sl+d)) z).toArray:=by
   apply cq;rw[i6,H]
  rcases m with⟨y,hd⟩|hd<;>(simp[Builtin.append_,aj (cN A),aj hd,sizeOf,cf k,g,hc,o,n,Question.forced,c,p,dP I,jB,E,aV];rfl)
theorem Dz{t:TypeId}{K:Prop}(h:MK P t K):∃i,P.info? t=some i:=by
 unfold MK at h;cases hi:P.info? t with
 |none=>rw[hi]at h;exact h.elim
 |some i=>exact⟨i,rfl⟩
theorem zJ{t:TypeId}(h:bq P t≠0):∃i,P.info? t=some i:=by
 cases hi:P.info? t with
 |none=>exact absurd (by simp[bq,hi]) h
 |some i=>exact⟨i,rfl⟩
theorem B9{size n:Nat}{x:ByteArray}{w:World}:(Builtin.firstCells size n (.string x)).run P w=.ok ((de x).take n).toArray w:=by
 simp only[Builtin.firstCells,Sem.run_pure];congr 1
 apply cq;simp[de,oU,fI,←List.map_take]
theorem xS{t u ty:TypeId}{s x:Value}{K:WK}{w:World}(c:(∃e',P.underlying u=some (.slice e'))∨P.underlying u=some .string)(h:CJ P t s x K w.heap):
  Wv P (Builtin.append_ #[t,u] ty #[s,x]) K w:=by
 unfold CJ at h;split at h
 ·rename_i e b sl sc a xl xc ht
  have g:=Dz h;obtain⟨⟨xs,d,i⟩,m⟩:=pg h;exact D0 ht c (fun w=>rfl) (fun w' f=>xh (by rw[f];exact d)) g i
 ·rename_i e b sl sc x ht
  cases hb:aW (bq P e) 1 with
  |false=>rw[hb]at h;exact h.elim
  |true=>
   rw[hb]at h;have k:=aG hb;have j:(de x).length=x.size:=by simp[de]
   refine D0 ht c (fun w=>rfl) (fun w' _=>?_) (zJ (by omega)) h
   rw[B9,bI (by omega)]
 ·exact h.elim
theorem AH{n:Int}(c:0≤n)(b:n≤9223372036854775807):IntKind.i64.wrap n=n:=IntWalk.i64_in n ⟨by omega,b⟩
theorem JB{t e u ty:TypeId}{b:Option Addr}{sl f:Nat}{k0 k:IntKind}{l:Int}{z:List Value}{K:WK}{w:World}(y:vt P t=some e)(B:P.underlying u=some (.int k0))
  (V:qn P e=some z)(O:z.length=bq P e)(W:0≤l)(R:l*qt P e≤2^48)(X:l≤9223372036854775807)(h3:((sl+l.toNat:Nat):Int)≤9223372036854775807)
  (h:NT P e b sl f l.toNat (cS l.toNat z) K w.heap):Wv P (Builtin.append_ #[t,u] ty #[.slice b sl f,.int k l]) K w:=by
 obtain⟨v,D,I⟩:=jp V;obtain⟨i,p,Z⟩:=rq D;have j:bq P e=i.size:=by simp[bq,p]
 have E:qt P e=i.bytes:=by simp[qt,p]
 have A:IntKind.wrap .i64 l=l:=AH W X;have g:¬l<0:=by omega
 rw[E]at R;have c:¬(281474976710656:Int)<l*i.bytes:=by omega
 have d:∀w':World,(asInt (.int k l)).run P w'=.ok l w':=fun w'=>rfl
 have C:(Builtin.zeroCells v.cells l.toNat)=(cS l.toNat z).toArray:=by apply cq;rw[i6,I]
 have s:l.toNat*i.size=0→cS l.toNat z= []:=fun N=>by
  have G:(cS l.toNat z).length=l.toNat*i.size:=by rw[←j,←O];unfold cS;simp
  exact bU.1 (by rw[G,N])
 by_cases hc:sl+l.toNat≤f
 ·obtain⟨Q,R,J⟩:=h.1 hc
  refine⟨_,_,?_,dG w (eM w.heap b (sl*bq P e) (cS l.toNat z)),J⟩;cases b with
  |none=>
   by_cases m:l.toNat*i.size=0
   ·simp[Builtin.append_,aj (cN y),aj B,sizeOf,cf p,d,A,g,c,hc,m];rfl
   ·simp[Builtin.append_,aj (cN y),aj B,sizeOf,cf p,d,A,g,c,hc,dP D];rfl
  |some a=>
   have n:=Db (P:=P) R Q;rw[j]at n;by_cases m:l.toNat*i.size=0
   ·rw[s m]at n
    simp[Builtin.append_,aj (cN y),aj B,sizeOf,cf p,d,A,g,c,hc,n,eM,j,m,s m]
   ·simp[Builtin.append_,aj (cN y),aj B,sizeOf,cf p,d,A,g,c,hc,n,eM,j,m,dP D,C]
 ·obtain⟨old,z',Y,H,L,T,J⟩:=h.2 (by omega)
  rw[V]at H;cases H;rw[E]at L T;have U:¬i.bytes=0:=by omega
  have o:¬(281474976710656<Builtin.nextslicecap (sl+l.toNat) f*i.bytes):=by omega
  have h3':¬(9223372036854775807:Int)<((sl:Int)+(l.toNat:Int)):=by omega
  have q:¬(9223372036854775807:Int)<((sl:Int)+max l 0):=by omega
  have x:(Builtin.firstCells (bq P e) sl (.slice b sl f)).run P w.drew=.ok old.toArray w.drew:=xh Y;rw[j]at x;have S:sl+l.toNat≤(Question.appendCap (sl+l.toNat) f e).cut (w.tape w.drawn (.appendCap (sl+l.toNat) f e)):=Nat.le_add_right _ _;refine⟨_,jq w.drew (hnew w.heap (old++cS l.toNat z++cS ((Question.appendCap (sl+l.toNat) f e).cut (w.tape w.drawn (.appendCap (sl+l.toNat) f e))-(sl+l.toNat)) z) e),?_,⟨rfl,rfl,rfl⟩,J _ S⟩
  have F:(Builtin.zeroCells v.cells ((Question.appendCap (sl+l.toNat) f e).cut (w.tape w.drawn (.appendCap (sl+l.toNat) f e))-(sl+l.toNat)))=(cS ((Question.appendCap (sl+l.toNat) f e).cut (w.tape w.drawn (.appendCap (sl+l.toNat) f e))-(sl+l.toNat)) z).toArray:=by
   apply cq;rw[i6,I]
  by_cases m:l.toNat*i.size=0
  ·rw[s m]at J⊢
   simp[Builtin.append_,aj (cN y),aj B,sizeOf,cf p,d,A,g,c,hc,q,o,Question.forced,x,dP D,jB,F,aV,m];rfl
  ·simp[Builtin.append_,aj (cN y),aj B,sizeOf,cf p,d,A,g,c,hc,q,o,Question.forced,x,dP D,jB,F,aV,m,C];rfl
theorem C2{t u ty:TypeId}{k0:IntKind}{s x:Value}{K:WK}{w:World}(d:P.underlying u=some (.int k0))(h:C3 P t s x K w.heap):
  Wv P (Builtin.append_ #[t,u] ty #[s,x]) K w:=by
 unfold C3 at h;split at h
 ·rename_i e b sl sc k l ht
  split at h
  ·rename_i z hz
   cases hb:aW z.length (bq P e)with
   |false=>rw[hb]at h;exact h.elim
   |true=>
    rw[hb]at h;obtain⟨⟨c,i,j,f⟩,g⟩:=h;exact JB ht d hz (aG hb) c i j f g
  ·exact h.elim
 ·exact h.elim
theorem oa:∀{a b:List Value},bL a=true→bL b=true→bL (a++b)=true
 | [],_,_,h=>h
 |v::a,b,h,k=>by
  simp only[bL,lR,aH]at h⊢;exact⟨h.1,oa h.2 k⟩
theorem zx{z:List Value}(h:bL z=true):∀n,bL (cS n z)=true
 |0=>rfl
 |n+1=>by
  have:cS (n+1) z=z++cS n z:=by simp[cS,List.replicate_succ]
  rw[this];exact oa h (zx h n)
theorem FA{t ty:TypeId}{x:Value}{K:WK}{w:World}(h:Ie P t x K w.heap):Wv P (Builtin.clear_ #[t] ty #[x]) K w:=by
 unfold Ie at h;split at h
 ·rename_i e a n c ht
  split at h
  ·rename_i z hz
   obtain⟨v,i,f⟩:=jp hz;cases ho:bL z with
   |false=>rw[ho]at h;exact h.elim
   |true=>
    rw[ho]at h;obtain⟨g,j⟩:=h;refine⟨_,_,?_,dG w (eM w.heap a 0 (cS n z)),j⟩;cases a with
    |none=>simp[Builtin.clear_,aj (cN ht)];rfl
    |some a=>
     cases n with
     |zero=>simp[Builtin.clear_,aj (cN ht)];rfl
     |succ n=>
      have b:=Db (P:=P) (zx ho (n+1)) g;rw[←ue,D3]at b;have d:(Builtin.zeroCells v.cells (n+1)).toList=cS (n+1) z:=by rw[i6,f]
      simp[Builtin.clear_,aj (cN ht),dP i,d,b,eM]
  ·exact h.elim
 ·exact h.elim
theorem zz:∀(xs:List Value) (n:Nat),bL xs=true→bL (xs.take n)=true
 | [],n,_=>by simp[bL]
 |x::xs,0,_=>by simp[bL]
 |x::xs,n+1,h=>by
  simp only[bL,aH,List.take_succ_cons]at h⊢;exact⟨h.1,zz xs n h.2⟩
theorem Es(x:ByteArray):bL (de x)=true:=by
 have:∀l:List UInt8,bL (l.map fun b=>.int .u8 (b.toNat:Int))=true:=by
  intro l;induction l with
  |nil=>rfl
  |cons b l ih=>simp[bL,ih]
 exact this _
theorem GG{t u ty:TypeId}{d s:Value}{K:WK}{w:World}(h:LY P t d s K w.heap):Wv P (Builtin.copy_ #[t,u] ty #[d,s]) K w:=by
 unfold LY at h;split at h
 ·rename_i e b dl dc a sl sc ht
  obtain⟨⟨xs,n,k,q,o⟩,j⟩:=pg h;refine⟨_,_,?_,dG w (eM w.heap b 0 xs),o⟩;have g:=xh (P:=P) (len:=sl) (cap:=sc) n;cases b with
  |none=>simp[Builtin.copy_,aj (cN ht),Builtin.lenOf,j,g,goInt];rfl
  |some c=>
   have f:=Db (P:=P) (m:=0) q k;simp only[Addr.add,if_pos]at f;simp[Builtin.copy_,aj (cN ht),Builtin.lenOf,j,g,goInt,f,eM]
 ·rename_i e b dl dc x ht
  cases hb:aW (bq P e) 1 with
  |false=>rw[hb]at h;exact h.elim
  |true=>
   rw[hb]at h;have q:=aG hb;obtain⟨i,p⟩:=zJ (P:=P) (t:=e) (by omega);have j:(sizeOf e).run P w=.ok (bq P e) w:=by simp[sizeOf,cf p,bq,p]
   obtain⟨k,o⟩:=h;have y:(de x).length=x.size:=by simp[de]
   have v:(de x).take (cX x.size dl)=(de x).take dl:=by
    by_cases hx:x.size≤dl
    ·rw[show cX x.size dl=x.size from Nat.min_eq_left hx,bI (by omega),bI (by omega)]
    ·rw[show cX x.size dl=dl from Nat.min_eq_right (by omega)]
   have g:(Builtin.firstCells (bq P e) (cX x.size dl) (.string x)).run P w=.ok ((de x).take dl).toArray w:=by
    rw[B9,v]
   refine⟨_,_,?_,dG w (eM w.heap b 0 ((de x).take dl)),o⟩;cases b with
   |none=>simp[Builtin.copy_,aj (cN ht),Builtin.lenOf,j,g,goInt];rfl
   |some c=>
    have f:=Db (P:=P) (m:=0) (zz _ dl (Es x)) k;simp only[Addr.add,if_pos]at f;simp[Builtin.copy_,aj (cN ht),Builtin.lenOf,j,g,goInt,f,eM]
 ·exact h.elim
theorem Kc(k v:Value)(b:Nat):∀(es:List MapEntry),(match es.findIdx? (fun e=>fg k e.key)with
  |some i=>(es.modify i (fun e=>{e with key:=k,val:=v}),b)
  |none=>(es++ [{key:=k,val:=v,born:=b}],b+1))=FP k v b es
 | []=>rfl
 |e::es=>by
  have c:=Kc k v b es;simp only[FP,List.findIdx?_cons];cases hk:fg k e.key with
  |true=>simp[List.modify]
  |false=>
   simp only[cE,if_false];rw[←c];cases hf:es.findIdx? (fun e=>fg k e.key)with
   |none=>simp
   |some i=>simp[List.modify]
theorem wn{d:TypeDesc}{c:CK}(hd:oD d c)(x:c.den):∀(es:List MapEntry) (i:Nat),keysOf c es→
  Instr.findNow d (c.enc x) es i=some (match es.findIdx? (fun e=>fg (c.enc x) e.key)with
   |some j=>(es[j]?).map fun e=>(i+j,e.val)
   |none=>none)
 | [],i,_=>rfl
 |e::es,i,h=>by
  obtain⟨y,k⟩:=h e (by simp);have f:=BT hd x y;rw[←k]at f;have g:=wn hd x es (i+1) fun m b=>h m (by simp[b])
  simp only[Instr.findNow,List.findIdx?_cons,f];cases hb:fg (c.enc x) e.key with
  |true=>simp
  |false=>
   simp only[cE,if_false];rw[g];cases hf:es.findIdx? (fun e=>fg (c.enc x) e.key)with
   |none=>simp
   |some j=>simp[Nat.add_assoc,Nat.add_comm 1 j]
theorem vu{a b:ByteArray}(h:(a==b)=true):a=b:=by
 cases a with|mk a=>cases b with|mk b=>
 have h:(a==b)=true:=h;rw[eq_of_beq h]
theorem wJ(a:ByteArray):(a==a)=true:=by
 cases a with|mk a=>
 exact beq_self_eq_true a
theorem FH{d:TypeDesc}{c:CK}(hd:oD d c)(x y:c.den)(h:fg (c.enc x) (c.enc y)=true):Instr.sameBits 10000 (c.enc y) (c.enc x)=true:=by
 rcases hd with⟨i,rfl,rfl⟩|⟨rfl,rfl⟩|⟨rfl,rfl⟩
 ·have h:x=y:=eq_of_beq (α:=Int) h
  subst h;have:∀n:Int,(i==i&&n==n)=true:=fun n=>by simp
  exact this x
 ·have h:x=y:=vu h
  subst h;exact wJ x
 ·have h:x=y:=eq_of_beq (α:=Bool) h
  subst h;exact beq_self_eq_true (α:=Bool) x
theorem uY{w:World}{r:Nat}{es:Array MapEntry}{b:Nat}{o:Obj}(h:w.heap[r]? =some (.map es b)):(setObj r o).run P w=.ok () (jq w (w.heap.setIfInBounds r o)):=by
 simp only[setObj,Sem.run,h];rfl
theorem IY{t k e:TypeId}{d:TypeDesc}{c:CK}(B:P.underlying t=some (.map k e))(z:P.underlying k=some d)(hd:oD d c){r:Nat}{x:c.den}{v:Value}{w:World}(hm:vx c w.heap r):
  (Instr.mapUpdate t (.map (some r)) (c.enc x) v).run P w=.ok () (jq w (nJ w.heap r (c.enc x) v)):=by
 obtain⟨es,b,m,g⟩:=hm;obtain⟨q,C,f,E⟩:=u0 (P:=P) hd z x g w;rw[wn hd x es.toList 0 g]at f;have j:=Kc (c.enc x) v b es.toList;have n:nJ w.heap r (c.enc x) v=w.heap.setIfInBounds r (.map (FP (c.enc x) v b es.toList).1.toArray (FP (c.enc x) v b es.toList).2):=by
  simp only[nJ,m]
 rw[n,←j];simp only[Instr.mapUpdate,Sem.run_bind,aj B,Result.andThen_ok,kQ m,mw hd z,C];cases hf:es.toList.findIdx? (fun e=>fg (c.enc x) e.key)with
 |none=>
  rw[hf]at f;simp only[bD.injEq]at f;subst f;simp only[uY m];congr 4
  apply cq;simp
 |some i=>
  rw[hf]at f;simp only[bD.injEq]at f;obtain⟨u,A,_⟩:=List.findIdx?_eq_some_iff_getElem.1 hf;have s:es.toList[i]? =some es.toList[i]:=aA u;rw[s]at f;simp only[mN,az]at f;subst f;have o:es[i]? =some es.toList[i]:=by rw[←aN];exact s
  obtain⟨y,D⟩:=g es.toList[i] (List.getElem_mem u);have p:Instr.sameBits 10000 (es.toList[i]).key (c.enc x)=true:=by
   rw[D]at A⊢;exact FH hd x y A
  simp only[o,mN,Option.getD_some,Instr.keyThatStays,p,if_true,Sem.run_bind,Sem.run_pure,Result.andThen_ok,uY m];congr 4
  apply cq;simp
theorem xR{t:TypeId}{m k v:Value}{K:WK}{w:World}(h:CI P t m k v K w.heap):Wu P (Instr.mapUpdate t m k v) K w:=by
 unfold CI at h;split at h
 ·rename_i c e m hc
  obtain⟨j,d,f,g,hd⟩:=vY hc;obtain⟨i,rfl,r,rfl,hm,b⟩:=CK.dec_sound h;exact⟨_,IY f g hd hm,dG _ _,b⟩
 ·exact h.elim
theorem HG(k:Value):∀(es:List MapEntry),(match es.findIdx? (fun e=>fg k e.key)with
  |some i=>es.eraseIdx i
  |none=>es)=DP k es
 | []=>rfl
 |e::es=>by
  have b:=HG k es;simp only[DP,List.findIdx?_cons];cases hk:fg k e.key with
  |true=>simp
  |false=>
   simp only[cE,if_false];rw[←b];cases hf:es.findIdx? (fun e=>fg k e.key)<;>simp
theorem Hm{t k e ty:TypeId}{ts:Array TypeId}{d:TypeDesc}{c:CK}(y:ts[0]? =some t) (z:P.underlying t=some (.map k e)) (u:P.underlying k=some d) (hd:oD d c) {r:Nat} {x:c.den} {w:World} (hm:vx c w.heap r):
  (Builtin.delete_ ts ty #[.map (some r),c.enc x]).run P w=.ok (.tuple #[]) (jq w (qJ w.heap r (c.enc x))):=by
 obtain⟨es,g,n,m⟩:=hm;obtain⟨q,A,f,B⟩:=u0 (P:=P) hd u x m w;rw[wn hd x es.toList 0 m]at f;have j:=HG (c.enc x) es.toList;have o:qJ w.heap r (c.enc x)=w.heap.setIfInBounds r (.map (DP (c.enc x) es.toList).toArray g):=by
  simp only[qJ,n]
 rw[o,←j];simp only[Builtin.delete_,y,List.getElem?_toArray,List.getElem?_cons_zero,List.getElem?_cons_succ,Sem.run_bind,aj z,Result.andThen_ok,kQ n,mw hd u,A];cases hf:es.toList.findIdx? (fun e=>fg (c.enc x) e.key)with
 |none=>
  rw[hf]at f;simp only[bD.injEq]at f;subst f;simp[uY n]
 |some i=>
  rw[hf]at f;simp only[bD.injEq]at f;obtain⟨s,C,_⟩:=List.findIdx?_eq_some_iff_getElem.1 hf;have v:es.toList[i]? =some es.toList[i]:=aA s;rw[v]at f;simp only[mN,az]at f;subst f;have p:i<es.size:=by simpa using s
  have b:es.eraseIdxIfInBounds i=(es.toList.eraseIdx i).toArray:=by
   apply cq;simp[Array.eraseIdxIfInBounds,p]
  simp[uY n,b]
theorem C0{t ty:TypeId}{ts:Array TypeId}{m k:Value}{K:WK}{w:World}(f:ts[0]? =some t) (h:C1 P t m k K w.heap):Wv P (Builtin.delete_ ts ty #[m,k]) K w:=by
 unfold C1 at h;split at h
 ·rename_i c e m hc
  obtain⟨n,d,g,i,hd⟩:=vY hc;obtain⟨j,rfl,h⟩:=CK.dec_sound h;rcases h with⟨rfl,b⟩|⟨r,rfl,hm,b⟩
  ·refine⟨_,w,?_,Tame.refl w,b⟩
   simp[Builtin.delete_,f,aj g,mw hd i]
  ·exact⟨_,_,Hm f g i hd hm,dG _ _,b⟩
 ·exact h.elim
theorem KY{t k e:TypeId}(c:P.underlying t=some (.map k e)){m:Option Nat}{b:Nat}{w:World}(hm:m=none∧b=0∨∃r es,m=some r∧w.heap[r]? =some (.map es b)):
  (Instr.range t (.map m)).run P w=.ok (.pointer (some (aV w.heap))) (jq w (w.heap.push (.mapIter m b #[] b))):=by
 rcases hm with⟨rfl,rfl⟩|⟨r,es,rfl,d⟩
 ·simp only[Instr.range,Sem.run_bind,aj c,Result.andThen_ok,Sem.run_pure,Di,aV]
 ·simp only[Instr.range,Sem.run_bind,aj c,Result.andThen_ok,Sem.run_pure,kQ d,Di,aV]
theorem vR{w:World}{i:Nat}{m:Option Nat}{b:Nat}{c:Array Nat}{last:Nat}(h:w.heap[i]? =some (.mapIter m b c last)):(getObj i).run P w=.ok (.mapIter m b c last) w:=by
 simp only[getObj,Sem.run,h]
theorem GZ{w:World}{i:Nat}{m:Option Nat}{b:Nat}{c:Array Nat}{last:Nat}{o:Obj}(h:w.heap[i]? =some (.mapIter m b c last)):(setObj i o).run P w=.ok () (jq w (w.heap.setIfInBounds i o)):=by
 simp only[setObj,Sem.run,h];rfl
theorem DW(n:Nat)(b:0<n)(w:World):∃k w',k<n∧(choose (.mapNext n)).run P w=.ok k w'∧Tame w w'∧w'.heap=w.heap:=by
 unfold choose;simp only[Sem.run];by_cases h:(Question.mapNext n).forced=true
 ·exact⟨0,w,b,by rw[if_pos h],Tame.refl w,rfl⟩
 ·refine⟨(Question.mapNext n).cut (w.tape w.drawn (.mapNext n)),{w with drawn:=w.drawn+1},Nat.mod_lt _ b,by rw[if_neg h],⟨rfl,rfl,rfl⟩,rfl⟩
theorem GF{O:Value}{t:TypeId}{K:WK}{w:World}(h:LX O K w.heap):Wv P (Instr.next O false t) K w:=by
 unfold LX at h;split at h
 ·rename_i a
  obtain⟨J,m,i,f,last,z,h⟩:=h;obtain⟨b,off,N⟩:=a;simp only at J z h;subst J;rcases h with⟨rfl,R⟩|⟨r,es,v,rfl,Q,A,B,G⟩
  ·exact⟨_,w,by simp only[Instr.next,Sem.run_bind,vR z,Result.andThen_ok,Sem.run_pure],Tame.refl w,R⟩
  ·have s:(!f.isEmpty&& !es.isEmpty&&es.all (fun e=>decide (e.born≥last)))=false:=by
    rcases A with h|h|h<;>simp[h]
   obtain⟨left,j⟩:∃left,left=es.filter fun e=> !f.contains e.born:=⟨_,rfl⟩
   obtain⟨old,p⟩:∃old,old=left.filter (·.born<i):=⟨_,rfl⟩
   obtain⟨new,hnew⟩:∃new,new=left.filter (·.born≥i):=⟨_,rfl⟩
   obtain⟨d,g⟩:∃d:Array (Option MapEntry),d=(if old.isEmpty then #[none]else #[])++(old++new).map some:=⟨_,rfl⟩
   have D:0<d.size:=by
    rw[g];by_cases y:old.isEmpty=true
    ·simp[y];omega
    ·have:old.size≠0:=by simpa using y
     simp[y];omega
   obtain⟨k,E,T,u,L,F⟩:=DW (P:=P) d.size D w;obtain⟨c,hc⟩:∃c,d[k]? =some c:=⟨d[k],Array.getElem?_eq_getElem T⟩;have I:E.heap[b]? =some (.mapIter (some r) i f last):=by rw[F];exact z
   have o:(!f.isEmpty&& !es.isEmpty&&es.all fun x=>decide (x.born≥last))=false:=s
   cases c with
   |none=>
    refine⟨.tuple #[.bool false],E,?_,L,?_⟩
    ·simp only[Instr.next,Sem.run_bind,vR z,Result.andThen_ok,Sem.run_pure,kQ Q,o,cE,if_false,←j,←p,←hnew,←g,u,hc]
    ·rw[F]
     have q:old.isEmpty=true:=by
      have hm:none∈d:=Array.mem_of_getElem? hc;rw[g]at hm;by_cases y:old.isEmpty=true
      ·exact y
      ·simp[y]at hm
     refine B fun e S H=>?_
     cases hs:f.contains e.born with
     |true=>rfl
     |false=>
      have n:e∈old:=by
       rw[p,j];simp only[pB];exact⟨⟨by simpa using S,by rw[hs];rfl⟩,by simpa using H⟩
      rw[Array.isEmpty_iff]at q;rw[q]at n;simp at n
   |some e=>
    have n:e∈es∧f.contains e.born=false:=by
     have hm:some e∈d:=Array.mem_of_getElem? hc;have C:e∈left:=by
      rw[g]at hm;rw[Array.mem_append]at hm;rcases hm with hm|hm
      ·split at hm<;>simp at hm
      ·simp only[Array.mem_map,bD.injEq,exists_eq_right,Array.mem_append]at hm
       rcases hm with hm|hm
       ·rw[p]at hm;exact(pB.1 hm).1
       ·rw[hnew]at hm;exact(pB.1 hm).1
     rw[j]at C;have:=pB.1 C;exact⟨this.1,by simpa using this.2⟩
    refine⟨.tuple #[.bool true,e.key,e.val],jq E (E.heap.setIfInBounds b (.mapIter (some r) i (f.push e.born) v)),?_,L.trans (dG _ _),?_⟩
    ·simp only[Instr.next,Sem.run_bind,vR z,Result.andThen_ok,Sem.run_pure,kQ Q,o,cE,if_false,←j,←p,←hnew,←g,u,hc,GZ I]
    ·rw[F]
     exact G e (by simpa using n.1) n.2
 ·exact h.elim
theorem Et{t e:TypeId}{z:List Value}{k k':IntKind}{l c:Int}{w:World}(s:vt P t=some e)(G:qn P e=some z)(f:z.length=bq P e)(C:0≤l)(H:l≤c)(D:c≤9223372036854775807)(E:qt P e*c≤2^48):
  (Instr.makeSlice t (.int k l) (.int k' c)).run P w=.ok (.slice (some (aV w.heap)) l.toNat c.toNat) (jq w (hnew w.heap (cS c.toNat z) e)):=by
 obtain⟨v,x,m⟩:=jp G;obtain⟨i,n,F⟩:=rq x;have g:bq P e=i.size:=by simp[bq,n]
 have q:qt P e=i.bytes:=by simp[qt,n]
 have p:v.cells.size=i.size:=by rw[←g,←f,←m];simp
 have A:=AH C (by omega);have hc:=AH (show 0≤c by omega) D
 rw[q]at E;have c1:¬(c<0):=by omega
 have y:¬(281474976710656<(i.bytes:Int)*c):=by omega
 have u:¬(l<0):=by omega
 have B:¬(c<l):=by omega
 by_cases b:c.toNat*i.size=0
 ·have o:(cS c.toNat z).length=0:=by simp[cS,f,g,b]
  rw[bU.1 o];simp[Instr.makeSlice,aj (cN s),asInt,asIntOf,cf n,A,hc,c1,y,u,B,sizeOf,b,jB]
 ·have d:((Array.range (c.toNat*i.size)).map (fun j=>v.cells[j%v.cells.size]!))=(cS c.toNat z).toArray:=by
   rw[←p,JO,m]
  have key:(newRow e ((Array.range (c.toNat*i.size)).map (fun j=>v.cells[j%v.cells.size]!))).run P w=.ok (aV w.heap) (jq w (hnew w.heap (cS c.toNat z) e)):=by
   rw[d,jB]
  simp[Instr.makeSlice,aj (cN s),asInt,asIntOf,cf n,A,hc,c1,y,u,B,sizeOf,b,dP x];rw[key];rfl
theorem Agree.args{N:Nat}{r:bP}{a:Act}(h:Agree N r a){os:Array Operand}{vs:List Value}(b:mV r os.toList=some vs):os.map a.eval=vs.toArray:=by
 rw[←lA h b];apply cq;simp
theorem HC.out{f:FuncId}{args:List Value}{ks:List Kind}{K:WK}{w:World}(h:HC P f args ks (fun x h'=>K (Cs ks (l4 ks x)) h') w.heap):HP P (callFunc f args.toArray) K w:=by
 rcases h.run w rfl with⟨c,g⟩|⟨v,w',c,d,x,rfl,b⟩
 ·refine .inr (.inr (.inl ⟨f,args.toArray,c,g.mono ?_⟩))
  rintro e w' ⟨d,x,rfl,b⟩;exact⟨d,_,rfl,b⟩
 ·exact .inl ⟨_,w',c,d,b⟩
theorem Lx{d b e:TypeId}{s:ByteArray}{w:World}(k:P.underlying d=some .string)(hd:P.underlying b=some (.slice e))(m:P.underlying e=some (.int .u8)):
  ∃c,s.size≤c∧(convert d b (.string s)).run P w=.ok (.slice (some (aV w.heap)) s.size c) (jq w.drew (w.heap.push (.cells (de s++eE (c-s.size) (Value.int .u8 0)).toArray e (c,c+1)))):=by
 have g:s.size≤grownCap w s.size 0 e:=Nat.le_add_right _ _;refine⟨_,g,?_⟩;rw[Go.Lib.run_convert_string_bytes w d b e s k hd m];have hc:(Go.Lib.bytesCells w e s).size=grownCap w s.size 0 e:=by
  unfold Go.Lib.bytesCells;rw[Array.size_append,Array.size_map,Array.size_replicate,show s.data.size=s.size from rfl]
  omega
 have f:(de s++eE (grownCap w s.size 0 e-s.size) (Value.int .u8 0)).toArray=Go.Lib.bytesCells w e s:=by
  unfold Go.Lib.bytesCells de;apply cq;simp
 rw[f];unfold Go.Lib.bytesWorld World.freeze;rw[if_neg (by omega),hc];unfold World.alloc World.drew jq;congr 1
 congr 1
 apply Array.ext (by simp);intro i o n;rw[Array.getElem_modify];simp only[Array.getElem_push];split
 ·rename_i e
  subst e;simp
 ·rename_i e
  have j:i<w.heap.size:=by simp at n;omega
  rw[dif_pos j,dif_pos j]
theorem AJ{o:Oper}{r:bP}{K:WK}{w:World}{N:Nat}{a:Act}(H:Agree N r a)(j:Ei P o r K w.heap):HP P (execOp a.eval o) K w:=by
 have A:∀{x:Operand} {v:Value},cC r x=some v→a.eval x=v:=fun h=>js H h
 obtain⟨O,Z,type,pos,I,F⟩:=o;cases Z with
 |alloc t=>
  simp only[Ei]at j;split at j
  ·rename_i z hz
   obtain⟨v,G,X⟩:=jp hz;have C:(Instr.alloc t true (.tuple #[])).run P w=.ok (.pointer (some (aV w.heap))) (jq w (hnew w.heap z t)):=by
    simp[Instr.alloc,dP G,newVar,jB,X]
   exact Wv.out ⟨_,_,C,dG _ _,j⟩
  ·exact j.elim
 |box t x=>
  simp only[Ei]at j;split at j
  ·rename_i v G
   have C:(Instr.box t v).run P w=.ok (.pointer (some (aV w.heap))) (jq w (hnew w.heap v.cells.toList t)):=by
    simp[Instr.box,newVar,jB]
   simp only[execOp,A G];exact Wv.out ⟨_,_,C,dG _ _,j⟩
  ·exact j.elim
 |build t ps=>
  simp only[Ei]at j;split at j
  ·rename_i vs p
   split at j
   ·rename_i cs hcs
    have S:(ps.map fun x=>(x.1,a.eval x.2))=vs.toArray:=by
     rw[←nZ H p];apply cq;simp
    have C:=zT (ps:=vs.toArray) (by simpa using hcs) w;simp only[execOp];rw[show(ps.map fun(i,x)=>(i,a.eval x))=vs.toArray from S]
    exact Wv.out ⟨_,w,C,Tame.refl w,j⟩
   ·exact j.elim
  ·exact j.elim
 |buildSlice t n ps=>
  simp only[Ei]at j;split at j
  ·rename_i e vs E p
   split at j
   ·rename_i z hz
    cases hb:(xt (n*bq P e) 16777216&&aW z.length (bq P e))with
    |false=>rw[hb]at j;exact j.elim
    |true=>
     rw[hb]at j;simp only[aH]at hb;simp only[cond_true]at j;split at j
     ·rename_i cs hcs
      have S:(ps.map fun x=>(x.1,a.eval x.2))=vs.toArray:=by
       rw[←nZ H p];apply cq;simp
      have C:=Bg (ps:=vs.toArray) E hz (ic hb.1) (aG hb.2) (by simpa using hcs) w;simp only[execOp];rw[show(ps.map fun(i,x)=>(i,a.eval x))=vs.toArray from S]
      exact Wv.out ⟨_,_,C,dG _ _,j⟩
     ·exact j.elim
   ·exact j.elim
  ·exact j.elim
 |store t x y=>
  simp only[Ei]at j;split at j
  ·rename_i b v hb G
   simp only[execOp,A hb,A G];exact Wu.out (Fz j)
  ·exact j.elim
 |mapUpdate t m k x=>
  simp only[Ei]at j;split at j
  ·rename_i mv kv xv hm B hx
   simp only[execOp,A hm,A B,A hx];exact Wu.out (xR j)
  ·exact j.elim
 |insert t m k x=>
  simp only[Ei]at j;split at j
  ·rename_i mv kv xv hm B hx
   simp only[execOp,A hm,A B,A hx];exact Wu.out (xR j)
  ·exact j.elim
 |makeMap t n=>
  simp only[Ei]at j;cases n with
  |none=>exact Wv.out ⟨_,jq w (w.heap.push (.map #[] 0)),by simp[Instr.makeMap];rfl,dG _ _,j⟩
  |some n=>
   simp only at j;split at j
   ·rename_i k i hn E
    exact Wv.out ⟨_,jq w (w.heap.push (.map #[] 0)),by simp[Instr.makeMap,A hn,aj E,asInt,asIntOf];rfl,dG _ _,j⟩
   ·exact j.elim
 |makeSlice t l c=>
  simp only[Ei]at j;split at j
  ·rename_i e k l' k' c' E V hc
   split at j
   ·rename_i z hz
    cases hb:aW z.length (bq P e)with
    |false=>rw[hb]at j;exact j.elim
    |true=>
     rw[hb]at j;obtain⟨⟨Y,U,R,h3⟩,j⟩:=j;simp only[execOp,A V,A hc];exact Wv.out ⟨_,_,Et E hz (aG hb) Y U R h3,dG _ _,j⟩
   ·exact j.elim
  ·exact j.elim
 |convert s d x=>
  simp only[Ei]at j;split at j
  ·rename_i e v W hd hx
   cases hu:Jb P e with
   |false=>rw[hu]at j;exact j.elim
   |true=>
    rw[hu]at j;obtain⟨c,hc,L⟩:=Lx (w:=w) (s:=v) W hd (Dy hu);simp only[execOp,A hx];exact Wv.out ⟨_,_,L,⟨rfl,rfl,rfl⟩,j c hc⟩
  ·exact j.elim
 |range t x=>
  simp only[Ei]at j;split at j
  ·rename_i k e m hu hx
   obtain⟨T,hm,j⟩:=j;simp only[execOp,A hx];exact Wv.out ⟨_,_,KY hu hm,dG _ _,j⟩
  ·exact j.elim
 |next it isS=>
  cases isS with
  |true=>simp only[Ei]at j
  |false=>
   simp only[Ei]at j;split at j
   ·rename_i v G
    simp only[execOp,A G];exact Wv.out (GF j)
   ·exact j.elim
 |call c=>
  simp only[Ei]at j;have eb:∀{b:Builtin} {vs:List Value},c.callee=.builtin b→mV r c.args.toList=some vs→∃cs:Array Bool,∀w,(execOp a.eval ⟨O,.call c,type,pos,I,F⟩).run P w=
    (builtin b c.argTypes type cs vs.toArray).run P w:=by
   intro b vs hc p;refine⟨c.args.map fun| .const _=>true|_=>false,fun w=>?_⟩
   simp[execOp,resolve,hc,H.args p,invoke];rfl
  have J:∀{s s':Sem Next},(∀w,s.run P w=s'.run P w)→HP P s' K w→HP P s K w:=by
   intro s s' C h;unfold HP at h⊢;simp only[C];exact h
  split at j
  ·rename_i s x hc p
   split at j
   ·rename_i t u hat
    obtain⟨cs,D⟩:=eb hc p;refine J D ?_;have q:c.argTypes= #[t,u]:=by apply cq;rw[hat]
    simp only[builtin,q];split at j
    ·rename_i e' hu;exact Wv.out (xS (.inl ⟨e',hu⟩) j)
    ·rename_i hu;exact Wv.out (xS (.inr hu) j)
    ·rename_i k0 hu;exact Wv.out (C2 hu j)
    ·exact j.elim
   ·exact j.elim
  ·rename_i x hc p
   split at j
   ·rename_i t hat
    obtain⟨cs,D⟩:=eb hc p;refine J D ?_;have q:c.argTypes= #[t]:=by apply cq;rw[hat]
    simp only[builtin,q];exact Wv.out (FA j)
   ·exact j.elim
  ·rename_i s x hc p
   split at j
   ·rename_i t u hat
    obtain⟨cs,D⟩:=eb hc p;refine J D ?_;have q:c.argTypes= #[t,u]:=by apply cq;rw[hat]
    simp only[builtin,q];exact Wv.out (GG j)
   ·exact j.elim
  ·rename_i m k hc p
   split at j
   ·rename_i t u hat
    obtain⟨cs,D⟩:=eb hc p;refine J D ?_;simp only[builtin];exact Wv.out (C0 (by rw[←aN,hat];rfl) j)
   ·exact j.elim
  ·rename_i f args hc p
   unfold Ph at j;split at j
   ·exact j.elim
   ·rename_i ks hks
    split at j
    ·rename_i f
     refine J (s':=callFunc f args.toArray) (fun w=>?_) j.out
     simp[execOp,resolve,hc,H.args p,Act.eval,Deferred.ofValue,invoke]
    ·rename_i f hf
     split at j
     ·rename_i fv hfv
      rcases j.run with⟨g,first,cap,rfl,Q⟩|⟨l,rfl,Q⟩
      rotate_left
      ·obtain⟨fn,tmps,assign,body,U,R⟩:=Q.run w rfl
       refine .inr (.inr (.inr ⟨l,fn,tmps,assign,body,?_,fun c cs=>?_⟩))
       ·rw[←U]
        simp[execOp,resolve,hc,H.args p,A hfv,Deferred.ofValue,invoke]
       ·obtain⟨b,w',E,B,W⟩:=R c cs
        refine⟨b,w',E,?_,W⟩;obtain⟨t,e,B⟩:=r8 B;have V:ks.length=1:=by rw[←tf ks t,←e];rfl
        match ks,V,t,e,B with
        | [k],_,t,e,B=>rw[←e]at B;exact B
      refine J (s':=callFunc g (first.toList++args++cap.toList).toArray) (fun w=>?_) Q.out
      have e:first++args.toArray++cap=(first.toList++args++cap.toList).toArray:=by apply cq;simp
      rw[←e];simp[execOp,resolve,hc,H.args p,A hfv,Deferred.ofValue,invoke]
     ·exact j.elim
  ·exact j.elim
 |_=>simp only[Ei]at j
end Go.Lift
