/- A part of the proof that the named laws of this program answer true, whatever the input. -/
import Derived.Test.YtceikogjngfacaaGreatLift0
import Derived.Laws.Append
import Derived.Laws.Cover3
import Derived.Laws.StructEq
import Derived.Laws.BytesString
import Derived.Lib.UnsafeStr
import Derived.Laws.RangeString
import Derived.Lib.ConvBytes
open Array renaming ext'→dx,getElem?_toList→bP,mem_filter→qr
open Bool renaming and_eq_true→aO,false_eq_true→bS
open Go.Builtin renaming firstCells→ft,len_→lw,cap_→xI,zeroCells→iE,lenOf→qz,append_→eG,nextslicecap→mV,clear_→ui,copy_→qC,delete_→rT
open Go.Instr renaming sureAddr→mU,sliceBounds→gi,sliceAt→qy,sameNow→vQ,findNow→oh,lookup→xG,range→vy,next→qq
open Go.Op renaming equalIn→gd
open Go.Result renaming andThen_ok→aF
open Go.Sem renaming run_bind→bf,run_pure→cd,run→ml
open List renaming extract_eq_take_drop→jT,map_cons→bJ,foldl_cons→rS,map_map→dR,take_of_length_le→bL,length_cons→av,cons_append→dF,replicate→gg,length_eq_zero_iff→ax,getElem?_eq_getElem→ag
open Nat renaming beq→aM,add_assoc→vP,ble→xE,eq_of_beq_eq_true→bG,le_of_ble_eq_true→gO,add_zero→eY,zero_add→bK,min→fX,not_lt→eW
open Option renaming some→bX,isSome_iff_exists→ib,map_some→jU
open Prod renaming mk→ou
open UInt8 renaming ofNat→cR
namespace Go.Lift
open Go
def VT(S:Option (ae→Prop))(h:ae):Prop:=match S with|none=>True|some f=>f h
def Yv(P:Program)(s:Sem Value)(K:RK)(h:ae):Prop:=∃v S,K v S∧VT S h∧∀w:World,VT S w.heap→s.run P w=.ok v w
theorem Yv.of_pure{P:Program}{s:Sem Value}{K:RK}{h:ae}{v:Value}(c:K v none)(b:∀w:World,s.run P w=.ok v w):Yv P s K h:=
 ⟨v,none,c,trivial,fun w _=>b w⟩
variable {P:Program}
theorem yN{t:TypeId}{f:Nat}{u:TypeId}{off:Nat}(h:yO P t f=some (u,off)):
  ∃fs g,P.underlying t=some (.struct fs)∧fs[f]? =some g∧g.type=u∧g.offset=off:=by
 unfold yO at h;split at h
 ·rename_i fs hu
  split at h
  ·rename_i g hg
   simp only[bX.injEq,ou.injEq]at h;exact⟨fs,g,hu,by simpa using hg,h.1,h.2⟩
  ·cases h
 ·cases h
theorem AZ{t:TypeId}(h:aM (cx P t) 0=false)(w:World):(sizeOf t).run P w=.ok (cx P t) w:=by
 unfold cx at h⊢;cases hi:P.info? t with
 |none=>rw[hi]at h;cases h
 |some i=>simp[sizeOf,dz hi]
theorem Fx{t:TypeId}{f:Nat}{u:TypeId}{off:Nat}{a:Addr}{K:RK}{h:ae}(j:yO P t f=some (u,off))
  (b:bif aM (cx P u) 0 then False else K (.pointer (some (adr a off))) none):Yv P (Instr.fieldAt t (.pointer (some a)) f) K h:=by
 obtain⟨m,g,i,d,rfl,rfl⟩:=yN j;cases hz:aM (cx P g.type) 0 with
 |true=>rw[hz]at b;exact b.elim
 |false=>
  rw[hz]at b;refine .of_pure b fun w=>?_
  have c:cx P g.type≠0:=fun e=>by rw[e]at hz;cases hz
  simp only[Instr.fieldAt,bf,aE i,aF,d,mU,cd,fieldPlace,AZ hz];simp[c,vH]
theorem xr{t:TypeId}{i:TypeInfo}(_:P.info? t=some i)(b:∃d,P.underlying t=some d)(w:World):(isAgg t).run P w=.ok (xt P t) w:=by
 obtain⟨d,hd⟩:=b;simp only[isAgg,bf,aE hd,aF];unfold xt;rw[hd];cases d<;>rfl
theorem B9{c:BinOp}{k k':IntKind}{a b:Int}{K:RK}{h:ae}(f:c=.shl∨c=.shr)(hv:OZ c k a b K):Yv P (Op.shift c k a k' b) K h:=by
 rcases f with rfl|rfl
 ·obtain⟨e,d⟩:=hv
  refine .of_pure d fun w=>?_
  simp[Op.shift,Int.not_lt.2 e]
 ·obtain⟨e,d⟩:=hv
  refine .of_pure d fun w=>?_
  simp[Op.shift,Int.not_lt.2 e]
theorem PS{c:BinOp}{k:IntKind}{a b:Int}{K:RK}{h:ae}(hv:YF c k a b K)(f:c≠ .shl∧c≠ .shr):Yv P (binOp c 0 (.int k a) (.int k b)) K h:=by
 cases c<;>simp only[YF]at hv
 case quo=>obtain⟨e,d⟩:=hv;exact .of_pure d fun w=>by simp[binOp,Op.intDiv,e]
 case rem=>obtain⟨e,d⟩:=hv;exact .of_pure d fun w=>by simp[binOp,Op.intDiv,e]
 all_goals exact .of_pure hv fun w=>by simp[binOp,Op.intArith,Op.intBits,Op.intCmp]
theorem HB(c:BinOp)(t:TypeId)(k k':IntKind)(a b:Int):binOp c t (.int k a) (.int k' b)=binOp c 0 (.int k a) (.int k' b):=by
 cases c<;>rfl
theorem OO{c:BinOp}{t:TypeId}{a b:ByteArray}{K:RK}{h:ae}(hv:Ym c a b K):Yv P (binOp c t (.string a) (.string b)) K h:=by
 cases c<;>simp only[Ym]at hv
 case add=>
  obtain⟨e,d⟩:=hv;refine .of_pure d fun w=>?_
  have:¬(((a.size+b.size:Nat):Int)>IntKind.i64.max):=by
   have:IntKind.i64.max=9223372036854775807:=by decide
   omega
  simp only[binOp,Op.stringOp,if_neg this,cd]
 all_goals exact .of_pure hv fun w=>by simp[binOp,Op.stringOp]
theorem j1{t:TypeId}{x y:Value}{b:Bool}{w:World}(h:∀d,(gd (d+1) t x y).run P w=.ok b w):(Op.equal t x y).run P w=.ok b w:=h 9999
theorem Hk{t:TypeId}{e:TypeId}(b:P.underlying t=some (.pointer e))(a:Option Addr)(w:World):(Op.equal t (.pointer a) (.pointer none)).run P w=.ok a.isNone w:=by
 refine j1 fun d=>?_
 simp only[gd,bf,aE b,aF];cases a<;>rfl
theorem PZ(e:BinOp)(t:TypeId)(x y:Operand)(a b:Value)(h:∀c d,a=.agg c→b=.agg d→False)(hi:a=.nilIface→b=.nilIface→False)(w:World):
  (eqGuard e t x y a b).run P w=.ok () w:=by
 cases e;case eql=>cases a<;>cases b<;>first|rfl|exact(hi rfl rfl).elim|exact(h _ _ rfl rfl).elim
 case neq=>cases a<;>cases b<;>first|rfl|exact(hi rfl rfl).elim|exact(h _ _ rfl rfl).elim
 all_goals rfl
theorem Tf(t:TypeId)(x y:Value)(hx:∀k a,x≠ .int k a)(d:∀s,x≠ .string s)(c:∀k a,x≠ .float k a)(hc:∀k a b,x≠ .complex k a b):binOp .eql t x y=(do pure (.bool (←Op.equal t x y))):=by
 cases x<;>first|rfl|exact absurd rfl (hx _ _)|exact absurd rfl (d _)|exact absurd rfl (c _ _)|exact absurd rfl (hc _ _ _)
theorem Te(t:TypeId)(x y:Value)(hx:∀k a,x≠ .int k a)(d:∀s,x≠ .string s)(c:∀k a,x≠ .float k a)(hc:∀k a b,x≠ .complex k a b):binOp .neq t x y=(do pure (.bool (!(←Op.equal t x y)))):=by
 cases x<;>first|rfl|exact absurd rfl (hx _ _)|exact absurd rfl (d _)|exact absurd rfl (c _ _)|exact absurd rfl (hc _ _ _)
theorem j4{t:TypeId}{neg:Bool}{x y:Value}{b:Bool}{w:World}(e:(Op.equal t x y).run P w=.ok b w)
  (hx:∀k a,x≠ .int k a)(d:∀s,x≠ .string s)(c:∀k a,x≠ .float k a)(hc:∀k a b,x≠ .complex k a b):
  (binOp (bif neg then .neq else .eql) t x y).run P w=.ok (.bool (bif neg then !b else b)) w:=by
 cases neg
 ·simp only[cond_false,Tf t x y hx d c hc,bf,e,aF,cd]
 ·simp only[cond_true,Te t x y hx d c hc,bf,e,aF,cd]
theorem PR{x:Value}(h:Z4 x=true):(∃f a b,x=.func f a b)∨x=.nilFunc:=by
 cases x<;>first|exact .inr rfl|exact .inl ⟨_,_,_,rfl⟩|cases h
theorem PQ{x:Value}(h:Z3 x=true):(∃t v,x=.iface t v)∨x=.nilIface:=by
 cases x<;>first|exact .inr rfl|exact .inl ⟨_,_,rfl⟩|cases h
theorem LA{y:Operand}(h:UN y=true):∃c,y=.const c:=by
 cases y<;>first|exact⟨_,rfl⟩|cases h
theorem NY(e:BinOp)(t:TypeId)(x:Operand)(c a b:Value)(h:∀c d,a=.agg c→b=.agg d→False)(w:World):
  (eqGuard e t x (.const c) a b).run P w=.ok () w:=by
 cases e;case eql=>cases a<;>cases b<;>first|rfl|exact(h _ _ rfl rfl).elim|(cases x<;>rfl)
 case neq=>cases a<;>cases b<;>first|rfl|exact(h _ _ rfl rfl).elim|(cases x<;>rfl)
 all_goals rfl
theorem GQ{t:TypeId}{neg:Bool}{x y:Value}{K:RK}{h:ae}(hv:W4 P t neg x y K):
  (∀c d,x=.agg c→y=.agg d→False)∧Yv P (binOp (bif neg then .neq else .eql) t x y) K h:=by
 unfold W4 at hv;split at hv
 ·rename_i e a hu
  refine⟨nofun,.of_pure hv fun w=>?_⟩
  exact j4 (Hk hu a w) nofun nofun nofun nofun
 ·rename_i k e a hu
  refine⟨nofun,.of_pure hv fun w=>?_⟩
  refine j4 ?_ nofun nofun nofun nofun;refine j1 fun d=>?_
  simp only[gd,bf,aE hu,aF];cases a<;>rfl
 ·rename_i e a _ _ _ _ hu
  refine⟨nofun,.of_pure hv fun w=>?_⟩
  refine j4 ?_ nofun nofun nofun nofun;refine j1 fun d=>?_
  simp only[gd,bf,aE hu,aF];cases a<;>rfl
 ·rename_i hu
  obtain⟨hx,g⟩:=hv;rcases PR hx with⟨f,a,b,e⟩|e<;>subst e
  ·refine⟨nofun,.of_pure g fun w=>j4 (j1 fun d=>?_) nofun nofun nofun nofun⟩
   simp only[gd,bf,aE hu,aF];rfl
  ·refine⟨nofun,.of_pure g fun w=>j4 (j1 fun d=>?_) nofun nofun nofun nofun⟩
   simp only[gd,bf,aE hu,aF];rfl
 ·rename_i hu
  obtain⟨hx,g⟩:=hv;rcases PQ hx with⟨f,a,e⟩|e<;>subst e
  ·refine⟨nofun,.of_pure g fun w=>j4 (j1 fun d=>?_) nofun nofun nofun nofun⟩
   simp only[gd,bf,aE hu,aF];rfl
  ·refine⟨nofun,.of_pure g fun w=>j4 (j1 fun d=>?_) nofun nofun nofun nofun⟩
   simp only[gd,bf,aE hu,aF];rfl
 ·exact hv.elim
theorem yu{w:World}{a b:Addr}(f:iS w.heap a)(d:iS w.heap b):(sameAddr a b).run P w=.ok (a==b) w:=by
 obtain⟨g,q,f,y⟩:=f;obtain⟨cb,eb,d,sb⟩:=d;by_cases c:a.block=b.block
 ·simp[sameAddr,c]
 ·have i:(a==b)=false:=by
   rw[beq_eq_false_iff_ne];intro e;exact c (by rw[e])
  have x:w.shape? a.block=some (q,g.size):=by simp[World.shape?,f]
  have o:w.shape? b.block=some (eb,cb.size):=by simp[World.shape?,d]
  have u:∀n,w.frozen? ({block:=a.block,off:=n}:Addr)=false:=fun n=>by simp[World.frozen?,f]
  have j:∀n,w.frozen? ({block:=b.block,off:=n}:Addr)=false:=fun n=>by simp[World.frozen?,d]
  have p:w.frozen? a=false:=by simp[World.frozen?,f]
  have s:w.frozen? b=false:=by simp[World.frozen?,d]
  obtain⟨m,hm⟩:∃m,g.size=m+1:=⟨g.size-1,by omega⟩
  obtain⟨n,v⟩:∃n,cb.size=n+1:=⟨cb.size-1,by omega⟩
  simp[sameAddr,c,noView,viewAt,mayBeOne,stringish,x,o,u,j,p,s,hm,v,i]
theorem D4{t:TypeId}{neg:Bool}{x y:Value}{K:RK}{h:ae}(hv:X1 P t neg x y K h):
  (∀c d,x=.agg c→y=.agg d→False)∧(x=.nilIface→y=.nilIface→False)∧Yv P (binOp (bif neg then .neq else .eql) t x y) K h:=by
 unfold X1 at hv;split at hv
 ·rename_i a b hu
  refine⟨nofun,nofun,.of_pure hv fun w=>?_⟩
  refine j4 ?_ nofun nofun nofun nofun;refine j1 fun d=>?_
  simp only[gd,bf,aE hu,aF,cd]
 ·rename_i e a b hu
  obtain⟨i,n,j⟩:=hv;refine⟨nofun,nofun,_,_,j,n,fun w o=>?_⟩
  refine j4 ?_ nofun nofun nofun nofun;have f:aM (cx P e) 0=false:=by
   cases hb:aM (cx P e) 0 with
   |false=>rfl
   |true=>rw[hb]at i;exact i.elim
  have g:cx P e≠0:=fun e=>by rw[e]at f;cases f
  refine j1 fun d=>?_
  simp only[gd,bf,aE hu,aF];cases a with
  |none=>cases b<;>rfl
  |some a=>cases b with
   |none=>rfl
   |some b=>
    obtain⟨m,h2⟩:=o a b rfl rfl;simp only[bf,AZ f,aF,ne_eq,g,not_false_eq_true,if_true,yu m h2];rfl
 ·exact hv.elim
theorem A9{e:BinOp}{t:TypeId}{x y:Value}{K:RK}{h:ae}(hv:WM P e t x y K h):
  (∀c d,x=.agg c→y=.agg d→False)∧(x=.nilIface→y=.nilIface→False)∧Yv P (binOp e t x y) K h:=by
 unfold WM at hv;split at hv
 ·rename_i k a k' b
  refine⟨nofun,nofun,?_⟩;rw[HB];split at hv
  ·exact B9 (k':=k') (.inl rfl) hv
  ·exact B9 (k':=k') (.inr rfl) hv
  ·rename_i h1 h2
   cases hk:LF k' k with
   |false=>rw[hk]at hv;exact hv.elim
   |true=>rw[hk]at hv;have:=Cy hk;subst this;exact PS hv ⟨h1,h2⟩
 ·exact⟨nofun,nofun,OO hv⟩
 ·split at hv
  ·exact D4 (neg:=false) hv
  ·exact D4 (neg:=true) hv
  ·exact hv.elim
theorem Nf{u:TypeId}{cs:List Value}{off:Nat}(b:((P.underlying u).isSome&&(P.info? u).isSome)=true){w:World}(d:xt P u=true):
  (part u cs.toArray off).run P w=.ok (.agg ((cs.drop off).take (cx P u)).toArray) w:=by
 simp only[aO,ib]at b;obtain⟨b,i,hi⟩:=b;have c:(sizeOf u).run P w=.ok (cx P u) w:=by simp[sizeOf,dz hi,cx,hi]
 simp only[part,bf,xr hi b,aF,d,if_true,c,cd];congr 2
 apply dx;simp[jT]
theorem JU{u:TypeId}{cs:List Value}{off:Nat}(b:((P.underlying u).isSome&&(P.info? u).isSome)=true){w:World}(d:xt P u=false){v:Value}(hc:cs[off]? =some v):
  (part u cs.toArray off).run P w=.ok v w:=by
 simp only[aO,ib]at b;obtain⟨b,i,hi⟩:=b;have c:cs.toArray[off]? =some v:=by simpa using hc
 simp only[part,bf,xr hi b,aF,d,bS,if_false,c,cd]
theorem Bb{h:ae}:∀{l m:List (Option Addr×Option Addr)},tC h (l++m)→tC h l∧tC h m
 | [],_,h=>⟨trivial,h⟩
 |(_,_)::_,_,h=>⟨⟨h.1,(Bb h.2).1⟩,(Bb h.2).2⟩
theorem NX{t:TypeId}{x y:Value}{b:Bool}{l:List (Option Addr×Option Addr)}(f:Vb P t x y=some (b,l)){w:World}(i:tC w.heap l)(d:Nat):
  (gd (d+1) t x y).run P w=.ok b w:=by
 unfold Vb at f;split at f
 ·rename_i k0 k a k' c hu
  cases hk:LF k' k with
  |false=>rw[hk]at f;cases f
  |true=>
   rw[hk]at f;have:=Cy hk;subst this;cases f;exact run_equalIn_int w d t _ _ _ _ hu
 ·rename_i a c hu
  cases f;exact run_equalIn_bool w d t _ _ hu
 ·rename_i a c hu
  cases f;exact run_equalIn_string w d t _ _ hu
 ·rename_i e a c hu
  cases hz:aM (cx P e) 0 with
  |true=>rw[hz]at f;cases f
  |false=>
   rw[hz]at f;cases f;have g:cx P e≠0:=fun e=>by rw[e]at hz;cases hz
   simp only[gd,bf,aE hu,aF];cases a with
   |none=>cases c<;>rfl
   |some a=>cases c with
    |none=>rfl
    |some c=>
     obtain⟨j,h2⟩:=i.1 a c rfl rfl;simp only[bf,AZ hz,aF,ne_eq,g,not_false_eq_true,if_true,yu j h2];rfl
 ·cases f
theorem Hl{rec:TypeId→List Value→List Value→Option (Bool×List (Option Addr×Option Addr))}{d:Nat}{xs ys:List Value}{w:World}
  (i:∀t us vs b l,rec t us vs=some (b,l)→tC w.heap l→(gd (d+1) t (.agg us.toArray) (.agg vs.toArray)).run P w=.ok b w):
  ∀(fs:List Field) (b:Bool) (l:List (Option Addr×Option Addr)),Xn P rec xs ys fs=some (b,l)→tC w.heap l→(Op.eqFields (d+1) xs.toArray ys.toArray fs).run P w=.ok b w
 | [],b,l,he,_=>by cases he;rfl
 |f::fs,b,l,he,hp=>by
  unfold Xn at he;split at he
  ·cases he
  ·rename_i hn
   cases hi:((P.underlying f.type).isSome&&(P.info? f.type).isSome)with
   |false=>rw[hi]at he;cases he
   |true=>
    rw[hi]at he;simp only[cond_true]at he;split at he
    ·rename_i b1 l1 c m e1 e2
     cases he;obtain⟨g,q⟩:=Bb hp;have e:=Hl i fs c m e2 q;have o:∃u v,(part f.type xs.toArray f.offset).run P w=.ok u w∧(part f.type ys.toArray f.offset).run P w=.ok v w∧(gd (d+1) f.type u v).run P w=.ok b1 w:=by
      cases ha:xt P f.type with
      |true=>
       rw[ha]at e1;exact⟨_,_,Nf hi ha,Nf hi ha,i _ _ _ _ _ e1 g⟩
      |false=>
       rw[ha]at e1;simp only[cond_false]at e1;split at e1
       ·rename_i x y hx hy
        exact⟨x,y,JU hi ha hx,JU hi ha hy,NX e1 g d⟩
       ·cases e1
     obtain⟨u,v,n,j,p⟩:=o;simp only[Op.eqFields,ne_eq,hn,not_false_eq_true,if_true,bf,n,j,p,aF];cases b1
     ·rfl
     ·exact e
    ·cases he
theorem Bj{w:World}:∀(m:Nat) (t:TypeId) (xs ys:List Value) (b:Bool) (l:List (Option Addr×Option Addr)),Vc P m t xs ys=some (b,l)→tC w.heap l→
  ∀d,(gd (d+m+1) t (.agg xs.toArray) (.agg ys.toArray)).run P w=.ok b w
 |0,_,_,_,_,_,he,_,_=>by cases he
 |m+1,t,xs,ys,b,l,he,hp,d=>by
  unfold Vc at he;split at he
  ·rename_i fs hu
   cases hs:P.stoodInHeld t with
   |true=>rw[hs]at he;cases he
   |false=>
    rw[hs]at he;have c:P.fieldsOf t=fs:=by simp[Program.fieldsOf,hu]
    rw[run_equalIn_struct w _ t _ _ (by rw[c];exact hu) hs,c];exact Hl (d:=d+m) (fun t e vs b l f h2=>Bj m t e vs b l f h2 d) fs.toList b l he hp
  ·cases he
theorem Ks{neg b:Bool}{K:RK}{h:ae}{l:List (Option Addr×Option Addr)}(c:aa3 neg b K h l):∃S,K (.bool (bif neg then !b else b)) S∧VT S h∧∀h',VT S h'→tC h' l:=by
 cases l with
 |nil=>exact⟨none,c,trivial,fun _ _=>trivial⟩
 |cons p l=>exact⟨_,c.2,c.1,fun _ h=>h⟩
theorem Pq{g:BinOp}{t:TypeId}{xs ys:Array Value}{x y:Operand}{K:RK}{h:ae}(c:Yu P g t xs.toList ys.toList K h):
  ∃v S,K v S∧VT S h∧∀w:World,VT S w.heap→(do eqGuard g t x y (.agg xs) (.agg ys);binOp g t (.agg xs) (.agg ys):Sem Value).run P w=.ok v w:=by
 unfold Yu at c;cases hg:P.eqGuardType P.depth t with
 |true=>rw[hg]at c;exact c.elim
 |false=>
  rw[hg]at c;simp only[cond_false]at c;split at c
  ·split at c
   ·rename_i b l he
    obtain⟨S,e,h2,d⟩:=Ks c;refine⟨_,S,e,h2,fun w f=>?_⟩
    have:=Bj 10 t _ _ b l he (d _ f) 9989;simp only[Array.toArray_toList]at this;simp only[bf,run_eqGuard_agg w _ t x y _ _ hg,aF,run_eql_struct,this];rfl
   ·exact c.elim
  ·split at c
   ·rename_i b l he
    obtain⟨S,e,h2,d⟩:=Ks c;refine⟨_,S,e,h2,fun w f=>?_⟩
    have:=Bj 10 t _ _ b l he (d _ f) 9989;simp only[Array.toArray_toList]at this;simp only[bf,run_eqGuard_agg w _ t x y _ _ hg,aF,run_neq_struct,this];rfl
   ·exact c.elim
  ·exact c.elim
theorem Sq{b:UnOp}{x:Value}{K:RK}{h:ae}(hv:aaH b x K):Yv P (Op.unary b x) K h:=by
 unfold aaH at hv;split at hv
 ·exact .of_pure hv fun w=>rfl
 ·exact .of_pure hv fun w=>rfl
 ·exact .of_pure hv fun w=>rfl
 ·exact hv.elim
theorem HA:∀(l:List UInt8) (s:ByteArray),(l.map fun b=>((b.toNat:Nat):Int)).foldl (fun r n=>r.push (cR n.toNat)) s=⟨s.data++l.toArray⟩
 | [],s=>by simp
 |b::l,s=>by
  simp only[bJ,rS];rw[HA l];congr 1
  have:cR ((b.toNat:Nat):Int).toNat=b:=by simp
  rw[this];apply dx;simp[ByteArray.push]
theorem G8{e:TypeId}(h:PP P e=true):P.underlying e=some (.int .u8):=by
 unfold PP at h;split at h
 ·assumption
 ·cases h
theorem MV{w:World}{a:Addr}{vs:List Value}(b:Row w.heap a vs):(loadCells a vs.length).run P w=.ok vs.toArray w:=by
 have:=run_firstCells_some (P:=P) w 1 vs.length a 0 0 vs (by simp) fun j v hv=>by rw[←vH];exact b j v hv
 simpa[ft]using this
theorem M7{g f:TypeId}{x:Value}{K:RK}{h:ae}(hv:Ui P g f x K h):Yv P (convert g f x) K h:=by
 unfold Ui at hv;split at hv
 ·rename_i k k' k'' n h1 h2
  exact .of_pure hv fun w=>by simp only[convert,bf,aE h1,aE h2,aF];rfl
 ·rename_i s h1 h2
  exact .of_pure hv fun w=>by simp only[convert,bf,aE h1,aE h2,aF];rfl
 ·rename_i e a n c h1 h2
  cases hu:PP P e with
  |false=>rw[hu]at hv;exact hv.elim
  |true=>
   rw[hu]at hv;obtain⟨s,u,q⟩:=hv;refine⟨_,_,q,u,fun w m=>?_⟩
   rw[run_convert_bytes_string w g f e a n c h1 (G8 hu) h2];obtain⟨p,m⟩:=m;rcases m with o|⟨b,rfl,z⟩
   ·have j:s=ByteArray.empty:=by
     have:s.data.toList= []:=by simpa[dN]using o
     cases s with
     |mk d=>simp at this;subst this;rfl
    cases a with
    |none=>rw[j];rfl
    |some b=>
     have y:n=0:=by rw[←p,o];rfl
     subst y;have:=MV (P:=P) (w:=w) (a:=b) (vs:= []) fun i v hv=>by simp at hv
     rw[run_bytesToString w b 0 c [] (by simpa using this),j];rfl
   ·have:=MV (P:=P) z
    rw[p]at this;rw[run_bytesToString w b n c (s.data.toList.map fun b=>((b.toNat:Nat):Int)) (by rw[this,dR];rfl),HA]
    cases s;simp[ByteArray.empty,ByteArray.emptyWithCapacity];try rfl
 ·exact hv.elim
theorem PA{u:TypeId}{cs:Array Value}{off:Nat}{K:RK}{h:ae}(c:∃d,P.underlying u=some d)(hi:∃i,P.info? u=some i)
  (hv:bif xt P u then K (.agg ((cs.toList.drop off).take (cx P u)).toArray) none else(match cs.toList[off]? with|some v=>K v none|none=>False)):Yv P (part u cs off) K h:=by
 obtain⟨i,hi⟩:=hi;cases ha:xt P u with
 |true=>
  rw[ha]at hv;refine .of_pure hv fun w=>?_
  have e:(sizeOf u).run P w=.ok (cx P u) w:=by simp[sizeOf,dz hi,cx,hi]
  simp only[part,bf,xr hi c,aF,ha,if_true,e,cd];congr 2
  apply dx;simp[jT]
 |false=>
  rw[ha]at hv;simp only[cond_false]at hv;cases hc:cs.toList[off]? with
  |none=>rw[hc]at hv;exact hv.elim
  |some v=>
   rw[hc]at hv;refine .of_pure hv fun w=>?_
   have b:cs[off]? =some v:=by simpa using hc
   simp only[part,bf,xr hi c,aF,ha,bS,if_false,b,cd]
def yh(P:Program)(v:Option Value)(d y n:Nat):Prop:=
 match v with
 |some x=>∀c w,(Instr.sliceBound x y c).run P w=.ok n w
 |none=>n=d
theorem nf{v:Option Value}{d y:Nat}{K:Nat→Prop}(hv:VA v d y K):∃n,K n∧yh P v d y n:=by
 unfold VA at hv;split at hv
 ·exact⟨d,hv,rfl⟩
 ·rename_i k i
  obtain⟨⟨b,f⟩,e⟩:=hv;refine⟨i.toNat,e,fun c w=>?_⟩
  simp[Instr.sliceBound,asIntOf,b,f]
 ·exact hv.elim
theorem qc{d:Bool}{len cap n l:Nat}{lo hi:Option Value}(b:yh P hi len cap n)(c:yh P lo 0 n l)(w:World):
  (gi d len cap lo hi none).run P w=.ok (l,n,cap) w:=by
 cases hi with
 |none=>
  cases lo with
  |none=>simp only[yh]at b c;subst b;subst c;simp[gi]
  |some lo=>simp only[yh]at b c;subst b;simp[gi,c]
 |some hi=>
  cases lo with
  |none=>simp only[yh]at b c;subst c;simp[gi,b]
  |some lo=>simp only[yh]at b c;simp[gi,b,c]
theorem Dy{d:Bool}{len cap n l m:Nat}{lo:Option Value}{hi e:Value}(hm:yh P (some e) 0 cap m)(b:yh P (some hi) 0 m n)(c:yh P lo 0 n l)(w:World):
  (gi d len cap lo (some hi) (some e)).run P w=.ok (l,n,m) w:=by
 cases lo with
 |none=>simp only[yh]at hm b c;subst c;simp[gi,hm,b]
 |some lo=>simp only[yh]at hm b c;simp[gi,hm,b,c]
theorem AV(a:Option Addr)(l m size:Nat):(if m=l then a else a.map (·.add (l*size)))=bN a l m size:=by
 unfold bN;split
 ·rfl
 ·congr 1;funext x;rw[vH]
theorem qg{t:TypeId}{K:Prop}(h:Uz P t K):K∧∀w,(sizeOf t).run P w=.ok (cx P t) w:=by
 unfold Uz at h;cases hi:P.info? t with
 |none=>rw[hi]at h;exact h.elim
 |some i=>rw[hi]at h;exact⟨h,fun w=>by simp[sizeOf,dz hi,cx,hi]⟩
theorem Lm{t:TypeId}{x:Value}{f:Nat}{K:RK}{h:ae}(hv:Pn P t x f K):Yv P (Instr.field t x f) K h:=by
 unfold Pn at hv;split at hv
 ·rename_i u off cs hf
  obtain⟨m,g,c,b,rfl,rfl⟩:=yN hf;cases hb:((P.underlying g.type).isSome&&(P.info? g.type).isSome)with
  |false=>rw[hb]at hv;exact hv.elim
  |true=>
   rw[hb]at hv;simp only[aO,ib]at hb;obtain⟨v,S,d,j,i⟩:=PA (cs:=cs) (off:=g.offset) (h:=h) hb.1 hb.2 hv;refine⟨v,S,d,j,fun w e=>?_⟩
   have:=i w e;simp only[Instr.field,bf,aE c,aF,b,asAgg,cd,this]
 ·exact hv.elim
theorem DK{t:TypeId}{x i:Value}{K:RK}{h:ae}(hv:A8 P t x i K):Yv P (Instr.indexAt t x i) K h:=by
 unfold A8 at hv;split at hv
 ·rename_i n e a k i hu
  obtain⟨⟨⟨c,g⟩,d⟩,f⟩:=qg hv;refine .of_pure d fun w=>?_
  simp[Instr.indexAt,asIntOf,aE hu,mU,c,g,f,vH]
 ·rename_i e b len cap k i hu
  obtain⟨⟨⟨c,g⟩,a,rfl,d⟩,f⟩:=qg hv;refine .of_pure d fun w=>?_
  simp[Instr.indexAt,asIntOf,aE hu,c,g,f,vH]
 ·exact hv.elim
theorem Li{ats:Array TypeId}{ty:TypeId}{v:Value}{K:RK}(h:Pi v K):∃u,K u none∧∀w,(Builtin.unsafeSliceData_ ats ty #[v]).run P w=.ok u w:=by
 unfold Pi at h;split at h
 ·rename_i a n c
  obtain⟨d,b⟩:=h;cases a with
  |none=>exact⟨_,b,fun w=>Lib.run_unsafeSliceData_nil ..⟩
  |some a=>exact⟨_,b,fun w=>Lib.run_unsafeSliceData_row _ _ _ _ _ _ (d.resolve_left nofun)⟩
 ·exact h.elim
theorem Ll{t:TypeId}{x i:Value}{K:RK}{h:ae}(hv:Pm P t x i K):Yv P (Instr.index t x i) K h:=by
 unfold Pm at hv;split at hv
 ·rename_i s k i hu
  obtain⟨b,e,c,d⟩:=hv;refine .of_pure d fun w=>?_
  simp[Instr.index,asIntOf,aE hu,e,c]
 ·exact hv.elim
theorem Lh{t:TypeId}{x:Value}{lo hi d:Option Value}{K:RK}{h:ae}(hv:Ph P t x lo hi d K):Yv P (qy t x lo hi d) K h:=by
 unfold Ph at hv;split at hv
 ·rename_i s hu
  cases d with
  |some _=>exact hv.elim
  |none=>
   obtain⟨n,hv,b⟩:=nf (P:=P) hv;obtain⟨l,hv,c⟩:=nf (P:=P) hv;refine .of_pure hv fun w=>?_
   simp[qy,Instr.slice,aE hu,qc b c]
 ·rename_i e a len cap hu
  obtain⟨hv,f⟩:=qg hv;cases d with
  |none=>
   obtain⟨n,hv,b⟩:=nf (P:=P) hv;obtain⟨l,hv,c⟩:=nf (P:=P) hv;refine .of_pure hv fun w=>?_
   simp[qy,Instr.slice,aE hu,qc b c,f,AV]
  |some m=>
   cases hi with
   |none=>exact hv.elim
   |some hi=>
    obtain⟨i,hv,hm⟩:=nf (P:=P) hv;obtain⟨n,hv,b⟩:=nf (P:=P) hv;obtain⟨l,hv,c⟩:=nf (P:=P) hv;refine .of_pure hv fun w=>?_
    simp[qy,Instr.slice,aE hu,Dy hm b c,f,AV]
 ·rename_i n e a hu
  obtain⟨hv,f⟩:=qg hv;cases d with
  |some _=>exact hv.elim
  |none=>
   obtain⟨m,hv,b⟩:=nf (P:=P) hv;obtain⟨l,hv,c⟩:=nf (P:=P) hv;refine .of_pure hv fun w=>?_
   have g:(some (if n=l then a else a.add (l*cx P e)))=bN (some a) l n (cx P e):=by
    rw[←AV];split<;>rfl
   simp[qy,aE hu,mU,qc b c,f,g]
 ·exact hv.elim
def pr(d:TypeDesc)(c:CK):Prop:=(∃i,d=.int i∧c=.int i)∨(d=.string∧c=.str)∨(d=.bool∧c=.bool)
theorem yI{t:TypeId}{c:CK}{e:TypeId}(h:NG P t=some (c,e)):∃k d,P.underlying t=some (.map k e)∧P.underlying k=some d∧pr d c:=by
 unfold NG at h;split at h
 ·rename_i k e' hu
  split at h
  ·rename_i i hk
   simp only[bX.injEq,ou.injEq]at h;obtain⟨rfl,rfl⟩:=h;exact⟨k,_,hu,hk,.inl ⟨i,rfl,rfl⟩⟩
  ·rename_i hk
   simp only[bX.injEq,ou.injEq]at h;obtain⟨rfl,rfl⟩:=h;exact⟨k,_,hu,hk,.inr (.inl ⟨rfl,rfl⟩)⟩
  ·rename_i hk
   simp only[bX.injEq,ou.injEq]at h;obtain⟨rfl,rfl⟩:=h;exact⟨k,_,hu,hk,.inr (.inr ⟨rfl,rfl⟩)⟩
  ·cases h
 ·cases h
theorem EC{d:TypeDesc}{c:CK}(hd:pr d c)(x y:c.den):vQ d (c.enc x) (c.enc y)=some (f6 (c.enc x) (c.enc y)):=by
 rcases hd with⟨i,rfl,rfl⟩|⟨rfl,rfl⟩|⟨rfl,rfl⟩
 ·simp[vQ,CK.enc,f6]
 ·simp[vQ,CK.enc,f6]
 ·simp[vQ,CK.enc,f6]
theorem ET{d:TypeDesc}{c:CK}(hd:pr d c)(x:c.den):∀(es:List MapEntry) (i:Nat),keysOf c es→
  ∃r,oh d (c.enc x) es i=some r∧r.map (·.2)=Hi (c.enc x) es
 | [],i,_=>⟨none,rfl,rfl⟩
 |e::es,i,h=>by
  obtain⟨y,j⟩:=h e (by simp);have b:=EC hd x y;rw[←j]at b;simp only[oh,Hi];cases hb:f6 (c.enc x) e.key with
  |true=>rw[b,hb];exact⟨some (i,e.val),rfl,rfl⟩
  |false=>rw[b,hb];exact ET hd x es (i+1) fun g f=>h g (by simp[f])
theorem N3{empty:Bool}{k:TypeId}{d:TypeDesc}{c:CK}(hd:pr d c)(b:P.underlying k=some d)(v:Value)(n:Nat)(w:World):(Instr.checkKey empty (n+1) k v).run P w=.ok () w:=by
 unfold Instr.checkKey;simp only[bf,aE b,aF];rcases hd with⟨i,rfl,rfl⟩|⟨rfl,rfl⟩|⟨rfl,rfl⟩<;>rfl
theorem xo{k:TypeId}{d:TypeDesc}{c:CK}(hd:pr d c)(e:P.underlying k=some d)(x:c.den){es:List MapEntry}(h:keysOf c es)(w:World):
  ∃r,(Instr.findKey k (c.enc x) es).run P w=.ok r w∧oh d (c.enc x) es 0=some r∧r.map (·.2)=Hi (c.enc x) es:=by
 obtain⟨r,b,hm⟩:=ET hd x es 0 h;refine⟨r,?_,b,hm⟩;simp only[Instr.findKey,bf,aE e,aF,b,cd]
theorem mD{w:World}{r:Nat}{es:Array MapEntry}{b:Nat}(h:w.heap[r]? =some (.map es b)):(getObj r).run P w=.ok (.map es b) w:=by
 simp only[getObj,ml,h]
theorem nV{empty:Bool}{k:TypeId}{d:TypeDesc}{c:CK}(hd:pr d c)(b:P.underlying k=some d)(v:Value)(w:World):(Instr.checkKey empty 10000 k v).run P w=.ok () w:=
 N3 hd b v 9999 w
theorem PJ{t:TypeId}{c:CK}{e k:TypeId}{d:TypeDesc}(o:P.underlying t=some (.map k e))(g:P.underlying k=some d)(hd:pr d c){m:Option Nat}{x:c.den}{z v:Value}{b ok:Bool}{w:World}
  (p:(zeroValue e).run P w=.ok z w)(hm:xy c z w.heap m (c.enc x) v b):
  (xG t (.map m) (c.enc x) ok).run P w=.ok (bif ok then .tuple #[v,.bool b]else v) w:=by
 cases m with
 |none=>
  obtain⟨rfl,rfl⟩:=hm;simp only[xG,bf,aE o,aF,cd,nV hd g];obtain⟨r,j,h2,f⟩:=xo (P:=P) hd g x (es:= []) (fun _ h=>by cases h) w
  simp only[oh,bX.injEq]at h2;subst h2;simp[j,p]
 |some r=>
  obtain⟨es,n,q,i,hv⟩:=hm;simp only[xG,bf,aE o,aF,mD q,cd,nV hd g];obtain⟨r,j,h2,f⟩:=xo (P:=P) hd g x i w;simp only[j,aF];cases r with
  |none=>
   simp only[Option.map_none]at f;rw[←f]at hv;obtain⟨rfl,rfl⟩:=hv;simp[p]
  |some r=>
   simp only[jU]at f;rw[←f]at hv;obtain⟨rfl,rfl⟩:=hv;cases ok<;>rfl
theorem fu{e:TypeId}{z:Value}(h:An P e=some z)(w:World):(zeroValue e).run P w=.ok z w:=by
 unfold An at h;cases hi:P.info? e with
 |none=>rw[hi]at h;cases h
 |some i=>rw[hi]at h;simp only at h;simp[zeroValue,dz hi,h]
theorem Iy{t:TypeId}{x k:Value}{ok:Bool}{K:RK}{h:ae}(hv:Lk P t x k ok K h):Yv P (xG t x k ok) K h:=by
 unfold Lk at hv;split at hv
 ·rename_i c e m hc
  obtain⟨n,d,f,g,hd⟩:=yI hc;obtain⟨o,rfl,hv⟩:=CK.dec_sound hv;split at hv
  ·rename_i ek z hek hz
   obtain⟨y,b,hm,j⟩:=hv;exact⟨_,_,j,hm,fun w i=>PJ f g hd (fu hz w) i⟩
  ·exact hv.elim
 ·exact hv.elim
theorem ED{w:World}{b cap s q:Nat}{buf:Array Value}{cl t:Bool}(h:w.heap[b]? =some (.chan cap buf cl s q t)):(getObj b).run P w=.ok (.chan cap buf cl s q t) w:=by
 simp only[getObj,ml,h]
theorem Pl{t:TypeId}{x:Value}{ats:Array TypeId}{ty:TypeId}{K:RK}{h:ae}(d:ats[0]? =some t) (hv:Ys P t x K h):Yv P (lw ats ty #[x]) K h:=by
 unfold Ys at hv;split at hv
 ·rename_i s hu
  exact .of_pure hv fun w=>by simp[lw,d,aE hu,goInt]
 ·rename_i n e _ hu
  exact .of_pure hv fun w=>by simp[lw,d,aE hu,goInt]
 ·rename_i e b n c hu
  exact .of_pure hv fun w=>by simp[lw,d,aE hu,goInt]
 ·rename_i k e m hu
  obtain⟨n,hm,g⟩:=hv;refine⟨_,_,g,hm,fun w f=>?_⟩
  cases m with
  |none=>
   have:n=0:=f;subst this;simp[lw,d,aE hu,goInt]
  |some r=>
   obtain⟨es,j,i,rfl⟩:=f;simp[lw,d,aE hu,goInt,mD i]
 ·rename_i k e m hu
  obtain⟨n,hm,g⟩:=hv;refine⟨_,_,g,hm,fun w f=>?_⟩
  cases m with
  |none=>
   have:n=0:=f;subst this;simp[lw,d,aE hu,goInt]
  |some r=>
   obtain⟨cap,buf,cl,s,q,i,rfl⟩:=f;simp[lw,d,aE hu,goInt,ED i]
 ·exact hv.elim
theorem Po{t:TypeId}{x:Value}{ats:Array TypeId}{ty:TypeId}{K:RK}{h:ae}(d:ats[0]? =some t) (hv:Yt P t x K h):Yv P (xI ats ty #[x]) K h:=by
 unfold Yt at hv;split at hv
 ·rename_i e b n c hu
  exact .of_pure hv fun w=>by simp[xI,d,aE hu,goInt]
 ·rename_i k e m hu
  obtain⟨n,hm,i⟩:=hv;refine⟨_,_,i,hm,fun w f=>?_⟩
  cases m with
  |none=>
   have:n=0:=f;subst this;simp[xI,d,aE hu,goInt]
  |some r=>
   obtain⟨cap,buf,cl,s,q,g,rfl⟩:=f;simp[xI,d,aE hu,goInt,ED g]
 ·exact hv.elim
theorem Cs{c:Bool}{k:IntKind}:∀{vs:List Value} {a:Int} {f:Value→Prop},Ly c k a vs f→∃v,f v∧∀w,(vs.foldlM (bif c then Builtin.max2 else Builtin.min2) (Value.int k a):Sem Value).run P w=.ok v w
 | [],a,f,h=>⟨_,h,fun w=>by simp⟩
 | .int k' b::vs,a,f,h=>by
  simp only[Ly]at h;cases hk:LF k' k with
  |false=>rw[hk]at h;exact h.elim
  |true=>
   rw[hk]at h;have:=Cy hk;subst this;obtain⟨v,d,e⟩:=Cs h;refine⟨v,d,fun w=>?_⟩
   rw[←e w];cases c<;>simp[List.foldlM_cons,Builtin.max2,Builtin.min2]
theorem As{b:Bool}{vs:List Value}{f:Value→Prop}{ats:Array TypeId}{ty:TypeId}(h:FY b vs f):∃v,f v∧∀w,(bif b then Builtin.max_ ats ty vs.toArray else Builtin.min_ ats ty vs.toArray).run P w=.ok v w:=by
 unfold FY at h;split at h
 ·obtain⟨v,c,d⟩:=Cs (P:=P) h
  refine⟨v,c,fun w=>?_⟩
  have:=d w;cases b<;>simpa[Builtin.max_,Builtin.min_]using this
 ·exact h.elim
theorem SW{a:Addr}{e:MapEntry}{w:World}(i:a.off=0)(h:yW w.heap a.block e):(Instr.entry (.pointer (some a))).run P w=.ok (.tuple #[e.key,e.val]) w:=by
 obtain⟨m,c,d,last,f,es,hi,o,hm,n⟩:=h;obtain⟨b,off,g⟩:=a;simp only at i hi;subst i;have j:(getObj b).run P w=.ok (.mapIter (some m) c d last) w:=by simp only[getObj,ml,hi]
 simp[Instr.entry,j,o,mD hm,n]
def Jo:DV→Value→Prop
 | .t,v=>v=.bool true
 | .f,v=>v=.bool false
 | .u,v=>v=undef
 | .x,_=>True
def DecOk(d:wV)(r:cY):Prop:=∀t,rW d t=.x∨∃v,kU r t=some v∧Jo (rW d t) v
theorem DecOk.at{d:wV}{r:cY}(h:DecOk d r){t:Nat}{v:Value}(hv:kU r t=some v):Jo (rW d t) v:=by
 rcases h t with e|⟨u,b,c⟩
 ·rw[e];trivial
 ·rw[hv]at b;cases b;exact c
theorem wu{d:wV}{r:cY}(hd:DecOk d r){o:Operand}{v:Value}(h:dQ r o=some v):Jo (CE d o) v:=by
 cases o with
 |tmp t=>exact hd.at h
 |const c=>
  simp[dQ]at h;subst h;cases c with
  |bool b=>cases b<;>exact rfl
  |_=>trivial
 |global g=>trivial
 |func f=>trivial
theorem EM{t:TypeId}(h:qJ P t=true):∃d,P.underlying t=some d∧∀m,d≠ .interface m:=by
 unfold qJ at h;split at h
 ·cases h
 ·rename_i d hd;exact⟨_,hd,fun m e=>by subst e;simp_all⟩
 ·cases h
theorem Cw{t:TypeId}{v:Value}(h:qJ P t=true)(w:World):(Instr.makeInterface t v).run P w=.ok (.iface t v) w:=by
 obtain⟨d,hd,b⟩:=EM h;simp only[Instr.makeInterface,bf,aE hd,aF];cases d<;>first|exact absurd rfl (b _)|rfl
theorem Gk{t u:TypeId}{v:Value}(h:qJ P t=true)(w:World):(Instr.typeAssert (.iface t v) u t false).run P w=.ok v w:=by
 obtain⟨d,hd,b⟩:=EM h;simp only[Instr.typeAssert,bf,aE hd,aF];cases d<;>first|exact absurd rfl (b _)|(simp[cd])
theorem kS{t:TypeId}{z:List Value}(h:rm P t=some z):∃v,An P t=some v∧v.cells.toList=z:=by
 unfold rm at h;cases hz:An P t with
 |none=>rw[hz]at h;cases h
 |some v=>rw[hz]at h;simp only[bX.injEq]at h;exact⟨v,rfl,h⟩
theorem sG{t:TypeId}{v:Value}(h:An P t=some v):∃i,P.info? t=some i∧i.zero=some v:=by
 unfold An at h;cases hi:P.info? t with
 |none=>rw[hi]at h;cases h
 |some i=>rw[hi]at h;exact⟨i,rfl,h⟩
theorem Vu{A B:List Value}{x:Value}{m:Nat}(h:A.length=m):(A++x::B).take (m+1)=A++ [x]:=by
 subst h;rw[List.take_append,bL (by omega),show A.length+1-A.length=1 by omega];rfl
theorem Vv{A B:List Value}{x:Value}{m n:Nat}(h:A.length=m):(A++x::B).drop (m+1+n)=B.drop n:=by
 subst h;rw[List.drop_append,List.drop_eq_nil_of_le (by omega),show A.length+1+n-A.length=n+1 by omega];rfl
theorem NU(off:Nat):∀(xs:List Value) (k:Nat) (arr:Array Value),off+k+xs.length≤arr.size→
  (xs.zipIdx k).foldl (fun cs (c,j)=>cs.setIfInBounds (off+j) c) arr=(Nc arr.toList (off+k) xs).toArray
 | [],k,arr,_=>by simp[Nc]
 |x::xs,k,arr,h=>by
  simp only[av]at h;simp only[List.zipIdx_cons,rS];rw[NU off xs (k+1) _ (by simp;omega)];have hm:off+k<arr.toList.length:=by simp;omega
  have d:arr.toList.set (off+k) x=arr.toList.take (off+k)++x::arr.toList.drop (off+k+1):=by
   rw[List.set_eq_take_append_cons_drop,if_pos hm]
  have b:(arr.toList.take (off+k)).length=off+k:=by simp;omega
  congr 1
  unfold Nc;rw[Array.toList_setIfInBounds,d,←vP,Vu b,Vv b];simp only[List.append_assoc,dF,List.nil_append,av,List.drop_drop];rw[show off+k+1+xs.length=off+k+(xs.length+1) by omega]
theorem uy{b:Nat→Option (Nat×Nat)}:∀(parts:List (Nat×Value)) (cs cs':List Value),EU b cs parts=some cs'→Instr.fill b cs.toArray parts=some cs'.toArray
 | [],cs,cs',h=>by simp only[EU,bX.injEq]at h;subst h;rfl
 |(i,v)::rest,cs,cs',h=>by
  simp only[EU]at h;cases hp:b i with
  |none=>rw[hp]at h;cases h
  |some os=>
   obtain⟨off,size⟩:=os;rw[hp]at h;simp only at h;cases hb:(aM v.cells.toList.length size&&xE (off+v.cells.toList.length) cs.length)with
   |false=>rw[hb]at h;cases h
   |true=>
    rw[hb]at h;simp only[aO]at hb;have e:=bG hb.1;have h2:=gO hb.2;have g:=uy rest _ _ h;have c:v.cells.size=size:=by simpa using e
    have d:off+v.cells.size≤cs.length:=by simpa using h2
    have f:Array.foldl (fun cs x=>cs.setIfInBounds (off+x.2) x.1) cs.toArray v.cells.zipIdx=(Nc cs off v.cells.toList).toArray:=by
     have:=NU off v.cells.toList 0 cs.toArray (by simpa using d);simp only[eY]at this;rw[←this,←Array.foldl_toList];congr 1
     simp[Array.toList_zipIdx]
    simp only[Instr.fill,hp];rw[if_neg (by simp[c];omega)];simp only[f];exact g
theorem po{N:Nat}{r:cY}{a:Act}(h:Agree N r a):∀{ps:List (Nat×Operand)} {vs:List (Nat×Value)},qI r ps=some vs→ps.map (fun p=>(p.1,a.eval p.2))=vs
 | [],vs,hv=>by simp[qI]at hv;subst hv;rfl
 |(i,o)::ps,vs,hv=>by
  simp only[qI]at hv;cases ho:dQ r o with
  |none=>simp[ho]at hv
  |some v=>cases hos:qI r ps with
   |none=>simp[ho,hos]at hv
   |some us=>simp[ho,hos]at hv;subst hv;simp[kW h ho,po h hos]
theorem uv{t:TypeId}(h:zX P t=true)(w:World):(sizeOf t).run P w=.ok (cx P t) w:=by
 unfold zX at h;cases hi:P.info? t with
 |none=>rw[hi]at h;cases h
 |some i=>simp[sizeOf,dz hi,cx,hi]
theorem GM(w:World):∀l:List Field,CN P l=true→(l.mapM fun f:Field=>((do pure (f.offset,←sizeOf f.type)):Sem (Nat×Nat))).run P w=.ok (l.map fun f:Field=>(f.offset,cx P f.type)) w
 | [],_=>rfl
 |f::l,h=>by
  simp only[CN]at h;cases hf:zX P f.type with
  |false=>rw[hf]at h;cases h
  |true=>
   rw[hf]at h;rw[List.mapM_cons];simp only[bf,uv hf,aF,cd,GM w l h,bJ]
theorem CI{t:TypeId}{ps:Array (Nat×Value)}{cs:List Value}(b:LW P t ps.toList=some cs)(w:World):
  (Instr.build t ps).run P w=.ok (.agg cs.toArray) w:=by
 unfold LW at b;split at b
 ·rename_i fs z hu g
  obtain⟨v,g,hv⟩:=kS g;cases ha:CN P fs.toList with
  |false=>rw[ha]at b;cases b
  |true=>
   rw[ha]at b;have m:(fs.mapM fun f:Field=>((do pure (f.offset,←sizeOf f.type)):Sem (Nat×Nat))).run P w=.ok (fs.map fun f:Field=>(f.offset,cx P f.type)) w:=by
    rw[Array.mapM_eq_mapM_toList];simp only[Sem.run_map,GM w fs.toList ha,aF];congr 1
    apply dx;simp
   have j:=uy _ _ _ b;have c:(fun i:Nat=>(fs.map fun f:Field=>(f.offset,cx P f.type))[i]?)=Px P fs.toList:=by
    funext i;unfold Px;rw[Array.getElem?_map,bP];cases fs[i]?<;>rfl
   have d:v.cells=z.toArray:=by rw[←hv]
   rw[cond_true]at b;rw[←c]at j;simp only[Instr.build,bf,fu g,aF,aE hu,m,d,j,cd]
 ·rename_i n e z hu g
  obtain⟨v,g,hv⟩:=kS g;cases ha:zX P e with
  |false=>rw[ha]at b;cases b
  |true=>
   rw[ha]at b;have j:=uy _ _ _ b;have d:v.cells=z.toArray:=by rw[←hv]
   simp only[Instr.build,bf,fu g,aF,aE hu,uv ha,d,j,cd]
 ·cases b
theorem DJ{ek:Option (Kind×Kind)}{o:Oper}{r:cY}{K:RK}{h:ae}{N:Nat}{a:Act}(R:Agree N r a)(g:Dp P ek o.op r K h)(d:wV)(hd:DecOk d r):
  ∃v S,K v S∧VT S h∧Jo (MA d o.op) v∧∀w:World,VT S w.heap→(execOp a.eval o).run P w=.ok (.value v) w:=by
 have j:∀{x:Operand} {v:Value},dQ r x=some v→a.eval x=v:=fun h=>kW R h
 have fin:∀{s:Sem Value},Yv P s K h→MA d o.op=.x→(∀w,(execOp a.eval o).run P w=(do pure (Next.value (←s)):Sem Next).run P w)→
   ∃v S,K v S∧VT S h∧Jo (MA d o.op) v∧∀w:World,VT S w.heap→(execOp a.eval o).run P w=.ok (.value v) w:=by
  rintro s ⟨v,S,q,B,A⟩ hx G;exact⟨v,S,q,B,by rw[hx];trivial,fun w D=>by rw[G w];exact jp (A w D)⟩
 obtain⟨U,O,z,pos,F,H⟩:=o;simp only at g fin⊢;cases O with
 |move x=>
  simp only[Dp]at g;split at g
  ·rename_i v hv
   exact⟨v,none,g,trivial,wu hd hv,fun w _=>by simp[execOp,j hv]⟩
  ·exact g.elim
 |assign x=>
  simp only[Dp]at g;split at g
  ·rename_i v hv
   exact⟨v,none,g,trivial,wu hd hv,fun w _=>by simp[execOp,j hv]⟩
  ·exact g.elim
 |pick c x y=>
  simp only[Dp]at g;split at g
  ·rename_i vc va vb hc hx V
   unfold XX at g;split at g
   ·rename_i cb
    have I:=wu hd hc;have W:=wu hd hx;have Y:=wu hd V;have G:∀w,(execOp a.eval ⟨U,.pick c x y,z,pos,F,H⟩).run P w=.ok (.value (if cb then va else vb)) w:=fun w=>by
     simp[execOp,j hc,j hx,j V,asBool]
    have J:Jo (MA d (.pick c x y)) (if cb then va else vb):=by
     simp only[MA];cases hcd:CE d c with
     |t=>
      rw[hcd]at I;have:cb=true:=by simpa[Jo]using I
      subst this;exact W
     |f=>
      rw[hcd]at I;have:cb=false:=by simpa[Jo]using I
      subst this;exact Y
     |u=>trivial
     |x=>trivial
    split at g
    ·rename_i bx by'
     have Q:(if cb=true then Value.bool bx else Value.bool by')=.bool (bif cb then bx else by'):=by cases cb<;>rfl
     rw[Q]at J;exact⟨_,none,g,trivial,J,fun w _=>by rw[G w,Q]⟩
    ·cases cb
     ·exact⟨_,none,g,trivial,J,fun w _=>G w⟩
     ·exact⟨_,none,g,trivial,J,fun w _=>G w⟩
   ·exact g.elim
  ·exact g.elim
 |load t x=>
  simp only[Dp]at g;split at g
  ·rename_i v hv
   obtain⟨u,S,q,B,A⟩:=EH g;exact fin ⟨u,some S,q,B,A⟩ rfl fun w=>by simp only[execOp,j hv]
  ·exact g.elim
 |nilCheck x=>
  simp only[Dp]at g;split at g
  ·rename_i p hv
   obtain⟨b,rfl,q⟩:=g;exact⟨_,none,q,trivial,trivial,fun w _=>by simp[execOp,j hv]⟩
  ·exact g.elim
 |binOp O t x y yt=>
  simp only[Dp]at g;split at g
  ·rename_i v u hn hv hu
   have go:(∀c d,v=.agg c→u=.agg d→False)∧Yv P (binOp O t v u) K h:=by
    split at g
    ·exact GQ (neg:=false) g
    ·exact GQ (neg:=true) g
    ·exact⟨(A9 g).1,(A9 g).2.2⟩
   obtain⟨Z,T,S,q,B,A⟩:=go;obtain⟨yc,rfl⟩:=LA hn;refine⟨T,S,q,B,trivial,fun w D=>?_⟩
   simp only[execOp,j hv,j hu];simp[NY O t x yc v u Z w,A w D]
  ·rename_i v u hn hv hu
   obtain⟨T,S,q,B,A⟩:=Pq (x:=x) (y:=y) g;refine⟨T,S,q,B,trivial,fun w D=>?_⟩
   simp only[execOp,j hv,j hu];exact jp (A w D)
  ·rename_i v u hna hn hv hu
   obtain⟨Z,h2,T,S,q,B,A⟩:=A9 g;refine⟨T,S,q,B,trivial,fun w D=>?_⟩
   simp only[execOp,j hv,j hu];simp[PZ O t x y v u Z h2 w,A w D]
  ·exact g.elim
 |unOp O t x=>
  simp only[Dp]at g;split at g
  ·rename_i v hv
   obtain⟨u,S,q,B,A⟩:=Sq (P:=P) (h:=h) g;refine⟨u,S,q,B,?_,fun w D=>by simp only[execOp,j hv];exact jp (A w D)⟩
   have L:=wu hd hv;cases O<;>try trivial
   simp only[MA];have E:=A {(default:World)with heap:=h} B;cases hx:CE d x with
   |t=>
    rw[hx]at L;have:v=.bool true:=L;subst this;simp[Op.unary]at E;exact E.symm
   |f=>
    rw[hx]at L;have:v=.bool false:=L;subst this;simp[Op.unary]at E;exact E.symm
   |u=>trivial
   |x=>trivial
  ·exact g.elim
 |convert s t x=>
  simp only[Dp]at g;split at g
  ·rename_i v hv
   exact fin (M7 g) rfl fun w=>by simp only[execOp,j hv]
  ·exact g.elim
 |extract x i=>
  simp only[Dp]at g;split at g
  ·rename_i vs hv
   split at g
   ·rename_i u hu
    have hu':vs[i]? =some u:=by simpa using hu
    exact⟨u,none,g,trivial,trivial,fun w _=>by simp[execOp,j hv,Instr.extract,hu']⟩
   ·exact g.elim
  ·exact g.elim
 |fieldAddr t x f=>
  simp only[Dp]at g;split at g
  ·rename_i b u off hv hf
   exact fin (Fx hf g) rfl fun w=>by simp only[execOp,j hv]
  ·exact g.elim
 |field t x f=>
  simp only[Dp]at g;split at g
  ·rename_i v hv
   exact fin (Lm g) rfl fun w=>by simp only[execOp,j hv]
  ·exact g.elim
 |indexAddr t x i=>
  simp only[Dp]at g;split at g
  ·rename_i v u hv hu
   exact fin (DK g) rfl fun w=>by simp only[execOp,j hv,j hu]
  ·exact g.elim
 |index t x i=>
  simp only[Dp]at g;split at g
  ·rename_i v u hv hu
   exact fin (Ll g) rfl fun w=>by simp only[execOp,j hv,j hu]
  ·exact g.elim
 |slice t x lo hi mx=>
  simp only[Dp]at g;split at g
  ·rename_i v l h' m hv hl hh hm
   have ov:∀{x:Option Operand} {v:Option Value},JX r x=some v→x.map a.eval=v:=by
    intro x v hx;cases x with
    |none=>simp[JX]at hx;subst hx;rfl
    |some x=>
     simp only[JX]at hx;cases G:dQ r x with
     |none=>simp[G]at hx
     |some u=>simp[G]at hx;subst hx;simp[j G]
   exact fin (Lh g) rfl fun w=>by simp only[execOp,j hv,ov hl,ov hh,ov hm]
  ·exact g.elim
 |lookup t x k ok=>
  simp only[Dp]at g;split at g
  ·rename_i v u hv hu
   exact fin (Iy g) rfl fun w=>by simp only[execOp,j hv,j hu]
  ·exact g.elim
 |makeInterface t x=>
  simp only[Dp]at g;split at g
  ·rename_i v hv
   cases hb:qJ P t with
   |false=>rw[hb]at g;exact g.elim
   |true=>
    rw[hb,cond_true]at g;exact⟨_,none,g,trivial,trivial,fun w _=>by simp only[execOp,j hv];exact jp (Cw hb w)⟩
  ·exact g.elim
 |typeAssert x u t ok=>
  simp only[Dp]at g;split at g
  ·rename_i v hv
   cases ok with
   |true=>exact g.elim
   |false=>
    rw[cond_false]at g;unfold QK at g;cases hb:qJ P t with
    |false=>rw[hb]at g;exact g.elim
    |true=>
     rw[hb,cond_true]at g;split at g
     ·obtain⟨y,rfl,q⟩:=g
      exact⟨_,none,q,trivial,trivial,fun w _=>by simp only[execOp,j hv];exact jp (Gk hb w)⟩
     ·exact g.elim
  ·exact g.elim
 |makeFunc fn first cap=>
  simp only[Dp]at g;split at g
  ·rename_i vs us hv hu
   have Q:=mY R hv;have e2:=mY R hu;refine⟨_,none,g,trivial,trivial,fun w _=>?_⟩
   have X:first.map a.eval=vs.toArray:=by rw[←Q];apply dx;simp
   have f2:cap.map a.eval=us.toArray:=by rw[←e2];apply dx;simp
   simp[execOp,Instr.makeFunc,X,f2]
  ·exact g.elim
 |entry it=>
  simp only[Dp]at g;split at g
  ·rename_i b kk vk hv
   obtain⟨h0,e,x,y,hi,q,V,hK⟩:=g;refine⟨_,_,hK,hi,trivial,fun w D=>?_⟩
   simp only[execOp,j hv];refine jp ?_;rw[SW h0 D,q,V]
  ·exact g.elim
 |call c=>
  simp only[Dp]at g;have C:∀{b:Builtin} {vs:List Value},c.callee=.builtin b→oz r c.args.toList=some vs→∃cs:Array Bool,∀w,(execOp a.eval ⟨U,.call c,z,pos,F,H⟩).run P w=
    (builtin b c.argTypes z cs vs.toArray).run P w:=by
   intro b vs hc n;have Q:=mY R n;have X:c.args.map a.eval=vs.toArray:=by rw[←Q];apply dx;simp
   refine⟨c.args.map fun| .const _=>true|_=>false,fun w=>?_⟩
   simp[execOp,resolve,hc,X,invoke];rfl
  split at g
  ·rename_i v t hc n hat
   obtain⟨cs,C⟩:=C hc n;obtain⟨u,S,q,B,A⟩:=Pl (ats:=c.argTypes) (ty:=z) (by rw[←bP,hat];rfl) g;exact⟨u,S,q,B,trivial,fun w D=>by rw[C w];simp only[builtin];exact jp (A w D)⟩
  ·rename_i v t hc n hat
   obtain⟨cs,C⟩:=C hc n;obtain⟨u,S,q,B,A⟩:=Po (h:=h) (ats:=c.argTypes) (ty:=z) (by rw[←bP,hat];rfl) g;exact⟨u,S,q,B,trivial,fun w D=>by rw[C w];simp only[builtin];exact jp (A w D)⟩
  ·rename_i vs hc n
   obtain⟨cs,C⟩:=C hc n;obtain⟨u,q,A⟩:=As (P:=P) (ats:=c.argTypes) (ty:=z) g;exact⟨u,none,q,trivial,trivial,fun w _=>by rw[C w];simp only[builtin];exact jp (A w)⟩
  ·rename_i vs hc n
   obtain⟨cs,C⟩:=C hc n;obtain⟨u,q,A⟩:=As (P:=P) (ats:=c.argTypes) (ty:=z) g;exact⟨u,none,q,trivial,trivial,fun w _=>by rw[C w];simp only[builtin];exact jp (A w)⟩
  ·rename_i v hc n
   obtain⟨cs,C⟩:=C hc n;obtain⟨u,q,A⟩:=Li (P:=P) (ats:=c.argTypes) (ty:=z) g;exact⟨u,none,q,trivial,trivial,fun w _=>by rw[C w];simp only[builtin];exact jp (A w)⟩
  ·exact g.elim
 |build t ps=>
  simp only[Dp]at g;split at g
  ·rename_i vs n
   split at g
   ·rename_i cs hcs
    refine⟨_,none,g,trivial,trivial,fun w _=>?_⟩
    have hp:(ps.map fun x=>(x.1,a.eval x.2))=vs.toArray:=by
     rw[←po R n];apply dx;simp
    have G:=CI (ps:=vs.toArray) (by simpa using hcs) w;simp only[execOp];rw[show(ps.map fun(i,x)=>(i,a.eval x))=vs.toArray from hp]
    exact jp G
   ·exact g.elim
  ·exact g.elim
 |_=>simp only[Dp]at g
end Go.Lift
namespace Go.Lift
open Go
variable {P:Program}
def Oc(P:Program)(s:Sem Next)(K:WK)(w:World):Prop:=
 (∃v w',s.run P w=.ok (.value v) w'∧Tame w w'∧K v w'.heap)∨
 (∃w',s.run P w=.ok .skip w'∧Tame w w'∧K undef w'.heap)∨
 (∃f args,s.run P w=.ok (.enter f args) w∧Calls P f args w fun e w'=>Tame w w'∧∃v,e=.returned v∧K v w'.heap)∨
 (∃l fn tmps assign body,s.run P w=.ok (.round l fn tmps assign body) w∧
  ∀(c:Frame) (cs:List Frame),∃b w',Tame w w'∧K (.bool b) w'.heap∧Steps P (lone (Frame.round l fn tmps assign body .normal) (c::cs) w) (lone (c.finish (.bool b)) cs w'))
def Wv(P:Program)(s:Sem Value)(K:WK)(w:World):Prop:=∃v w',s.run P w=.ok v w'∧Tame w w'∧K v w'.heap
theorem Wv.out{s:Sem Value}{K:WK}{w:World}(h:Wv P s K w):Oc P (do pure (Next.value (←s))) K w:=by
 obtain⟨v,w',b,d,c⟩:=h;exact .inl ⟨v,w',jp b,d,c⟩
def Wu(P:Program)(s:Sem Unit)(K:WK)(w:World):Prop:=∃w',s.run P w=.ok () w'∧Tame w w'∧K undef w'.heap
theorem Wu.out{s:Sem Unit}{K:WK}{w:World}(h:Wu P s K w):Oc P (do s;pure Next.skip) K w:=by
 obtain⟨w',b,d,c⟩:=h;exact .inr (.inl ⟨w',T0 b,d,c⟩)
def jV(w:World)(h:ae):World:={w with heap:=h}
theorem eH(w:World)(h:ae):Tame w (jV w h):=⟨rfl,rfl,rfl⟩
theorem lc(e:TypeId)(cs:Array Value)(w:World):(newRow e cs).run P w=.ok (aJ w.heap) (jV w (hnew w.heap cs.toList e)):=by
 simp[newRow,newObj,ml,aJ,jV,hnew,bind,Sem.bind,pure]
theorem A4(o:Obj)(w:World):(newObj o).run P w=.ok w.heap.size (jV w (w.heap.push o)):=rfl
theorem IJ{h:ae}{a b:Addr}(v:Value)(c:a≠b):bh (hset h a v) b=bh h b:=
 World.cell?_setCell_other {(default:World)with heap:=h} a b v c
theorem Fw{h:ae}{a:Addr}{u:Value}(v:Value)(hc:bh h a=some u):bh (hset h a v) a=some v:=
 World.cell?_setCell_same {(default:World)with heap:=h} a v hc
theorem LI{h:ae}{a b:Addr}(v:Value):F1 (hset h a v) b=F1 h b:=
 World.frozen?_setCell {(default:World)with heap:=h} a b v
theorem Wr.hset{h:ae}{a b:Addr}(v:Value)(f:Wr h b):Wr (hset h a v) b:=by
 obtain⟨⟨u,c⟩,d⟩:=f;refine⟨?_,by rw[LI];exact d⟩
 by_cases e:a=b
 ·subst e;exact⟨v,Fw v c⟩
 ·exact⟨u,by rw[IJ v e];exact c⟩
theorem O6{w:World}{a:Addr}{v:Value}(hv:∀cs,v≠ .agg cs)(b:∀cs,v≠ .tuple cs)(g:Wr w.heap a):(store a v).run P w=.ok () (jV w (hset w.heap a v)):=by
 obtain⟨⟨u,e⟩,f⟩:=g;have c:w.cell? a=some u:=e;have d:w.frozen? a=false:=f;cases v<;>first|exact absurd rfl (hv _)|exact absurd rfl (b _)|(simp only[store,ml,c,d];rfl)
theorem Lu{v:Value}{vs:List Value}(h:cF (v::vs)=true):(∀cs,v≠ .agg cs)∧(∀cs,v≠ .tuple cs)∧cF vs=true:=by
 simp only[cF,aO]at h;refine⟨fun cs e=>?_,fun cs e=>?_,h.2⟩<;>(subst e;exact absurd h.1 (by simp))
theorem th{a:Addr}:∀(vs:List Value) (i:Nat) (w:World),cF vs=true→(∀j,j<vs.length→Wr w.heap (adr a (i+j)))→
  (storeCells a vs i).run P w=.ok () (jV w (iw w.heap a i vs))
 | [],i,w,_,_=>rfl
 |v::vs,i,w,b,hw=>by
  obtain⟨d,f,b⟩:=Lu b;have c:=hw 0 (by simp);simp only[eY]at c;have e:a.add i=adr a i:=(vH a i).symm;simp only[storeCells,e,bf,O6 d f c,aF];rw[th vs (i+1) (jV w (hset w.heap (adr a i) v)) b fun j g=>?_]
  ·rfl
  ·have:=hw (j+1) (by simp only[av];omega)
   rw[show i+1+j=i+(j+1) by omega]
   exact this.hset v
theorem zW{a:Addr}(m:Nat):∀(vs:List Value) (i:Nat) (h:ae),iw h (adr a m) i vs=iw h a (m+i) vs
 | [],_,_=>rfl
 |v::vs,i,h=>by
  simp only[iw];rw[zW m vs (i+1),CQ];rfl
theorem KW{t:TypeId}{a v:Value}{K:WK}{w:World}(c:OF P t a v K w.heap):Wu P (Instr.storeAt t a v) K w:=by
 unfold OF at c;split at c
 ·rename_i a
  cases hb:(aM v.cells.toList.length (cx P t)&&cF v.cells.toList)with
  |false=>rw[hb]at c;exact c.elim
  |true=>
   rw[hb]at c;simp only[aO]at hb;have o:=bG hb.1;obtain⟨c,n⟩:=qg c;have g:v.cells.size=cx P t:=by simpa using o
   have go:(∀j,j<v.cells.toList.length→Wr w.heap (adr a (0+j)))→(Instr.storeAt t (.pointer (some a)) v).run P w=.ok () (jV w (iw w.heap a 0 v.cells.toList)):=by
    intro d;have:=th (P:=P) v.cells.toList 0 w hb.2 d;simp[Instr.storeAt,mU,storeVar,n,g,this]
   split at c
   ·rename_i u hu
    obtain⟨d,i⟩:=c;refine⟨_,go (fun j f=>?_),eH _ _,?_⟩
    ·rw[hu]at f;simp only[av,List.length_nil]at f
     obtain rfl:j=0:=by omega
     exact d
    ·rw[hu];exact i
   ·obtain⟨d,i⟩:=c
    refine⟨_,go (fun j f=>?_),eH _ _,i⟩
    rcases d with e|⟨b,m,d⟩
    ·rw[e]at f;cases f
    ·cases m;exact d j f
 ·exact c.elim
theorem kI(z:Array Value)(n:Nat):(iE z n).toList=fb n z.toList:=by
 have key:∀n,(List.range (n*z.size)).map (fun i=>z[i%z.size]!)=(gg n z.toList).flatten:=by
  intro n;induction n with
  |zero=>simp
  |succ n ih=>
   rw[Nat.succ_mul,List.range_add,List.map_append,ih,List.replicate_succ',List.flatten_append];congr 1
   simp only[dR,List.flatten_cons,List.flatten_nil,List.append_nil];apply List.ext_getElem
   ·simp
   ·intro i b h2
    simp only[List.length_map,List.length_range]at b;simp[Nat.mod_eq_of_lt b,b,Nat.add_mod]
 simpa[iE,fb]using key n
theorem d8{t e:TypeId}(h:xL P t=some e):P.underlying t=some (.slice e):=by
 unfold xL at h;split at h
 ·rename_i e' hu;simp only[bX.injEq]at h;subst h;exact hu
 ·cases h
theorem Qu{z:Value}{n:Nat}:((Array.range (n*z.cells.size)).map (z.cells[· %z.cells.size]!))=(fb n z.cells.toList).toArray:=by
 have:=kI z.cells n;unfold iE at this;apply dx;rw[this]
theorem D6{t e:TypeId}{n:Nat}{ps:Array (Nat×Value)}{z cs:List Value}(u:xL P t=some e)(p:rm P e=some z)(x:n*cx P e≤16777216)(m:z.length=cx P e)
  (o:EU (fun i=>some (i*cx P e,cx P e)) (fb n z) ps.toList=some cs)(w:World):
  (Instr.buildSlice t n ps).run P w=.ok (.slice (some (aJ w.heap)) n n) (jV w (hnew w.heap cs e)):=by
 obtain⟨v,hv,d⟩:=kS p;obtain⟨i,hi,q⟩:=sG hv;have s:(sizeOf e).run P w=.ok (cx P e) w:=by simp[sizeOf,dz hi,cx,hi]
 have f:v.cells.size=cx P e:=by rw[←m,←d];simp
 have j:=uy _ _ _ o;have b:((Array.range (n*cx P e)).map (fun i=>(if n*cx P e=0 then #[]else v.cells)[i%(if n*cx P e=0 then #[]else v.cells).size]!))=(fb n z).toArray:=by
  by_cases c:n*cx P e=0
  ·have:(fb n z).length=0:=by simp[fb,m,c]
   rw[ax.1 this];simp[c]
  ·simp only[if_neg c]
   rw[←f,Qu,d]
 have g:¬(n*cx P e>2^24):=by omega
 simp only[Instr.buildSlice,bf,aE (d8 u),aF,s,if_neg g];by_cases c:n*cx P e=0
 ·simp only[if_pos c]at b
  simp only[if_pos c,bf,cd,aF,b,j,lc]
 ·simp only[if_neg c]at b
  simp only[if_neg c,bf,cd,aF,fu hv,b,j,lc]
theorem Sc{h:ae}{a:Addr}{vs:List Value}(b:Row h a vs):∀j v,vs[j]? =some v→bh h (a.add j)=some v:=fun j v hv=>by
 rw[←vH];exact b j v hv
theorem zI{size n cap len:Nat}{b:Option Addr}{vs:List Value}{w:World}(d:SRow w.heap b (n*size) vs):(ft size n (.slice b len cap)).run P w=.ok vs.toArray w:=by
 obtain⟨e,c⟩:=d;cases b with
 |none=>
  rcases c with rfl|⟨_,h,_⟩
  ·simp[ft]
  ·cases h
 |some b=>
  refine run_firstCells_some w size n b len cap vs e fun j v hv=>?_
  rcases c with rfl|⟨_,h,c⟩
  ·cases hv
  ·cases h;exact Sc c j v hv
theorem Gq{a:Addr}{m:Nat}{xs:List Value}{w:World}(f:cF xs=true)(c:xw w.heap (some a) m xs):
  (storeCells (a.add m) xs).run P w=.ok () (jV w (iw w.heap a m xs)):=by
 rcases c with rfl|⟨b,e,c⟩
 ·rfl
 ·cases e
  have:=th (P:=P) (a:=adr a m) xs 0 w f fun j d=>by rw[CQ,bK];exact c j d
  rw[←vH,this,zW,eY]
set_option maxHeartbeats 1000000 in
theorem HH{t e u ty:TypeId}{b:Option Addr}{sl f d:Nat}{xs:List Value}{x:Value}{K:WK}{w:World}(G:xL P t=some e)(m:(∃y,P.underlying u=some (.slice y))∨P.underlying u=some .string)
  (g:∀w,(qz x).run P w=.ok d w)(hx:∀w':World,w'.heap=w.heap→(ft (cx P e) d x).run P w'=.ok xs.toArray w')
  (hi:∃i,P.info? e=some i)
  (h:VI P e b sl f d xs K w.heap):Wv P (eG #[t,u] ty #[.slice b sl f,x]) K w:=by
 obtain⟨i,hi⟩:=hi;have j:cx P e=i.size:=by simp[cx,hi]
 have E:ru P e=i.bytes:=by simp[ru,hi]
 by_cases hc:sl+d≤f
 ·obtain⟨N,L,F⟩:=h.1 hc
  refine⟨_,_,?_,eH w (ik w.heap b (sl*cx P e) xs),F⟩;cases b with
  |none=>
   have c:=hx w rfl;rw[j]at c;rcases m with⟨y,hd⟩|hd<;>(simp[eG,aE (d8 G),aE hd,sizeOf,dz hi,g,hc,c];rfl)
  |some a=>
   have n:=Gq (P:=P) L N;have c:=hx w rfl;rw[j]at n c;rcases m with⟨y,hd⟩|hd<;>(simp[eG,aE (d8 G),aE hd,sizeOf,dz hi,g,hc,c,n,ik,j])
 ·obtain⟨old,z,I,J,B,H,F⟩:=h.2 (by omega)
  obtain⟨v,hv,A⟩:=kS J;obtain⟨Q,o,O⟩:=sG hv;rw[hi]at o;cases o;rw[E]at B H;have p:¬i.bytes=0:=by omega
  have s:¬(281474976710656<mV (sl+d) f*i.bytes):=by omega
  have c:=hx w.drew rfl;have q:(ft (cx P e) sl (.slice b sl f)).run P w.drew=.ok old.toArray w.drew:=zI I;rw[j]at c q;have C:sl+d≤(Question.appendCap (sl+d) f e).cut (w.tape w.drawn (.appendCap (sl+d) f e)):=Nat.le_add_right _ _;refine⟨_,jV w.drew (hnew w.heap (old++xs++fb ((Question.appendCap (sl+d) f e).cut (w.tape w.drawn (.appendCap (sl+d) f e))-(sl+d)) z) e),?_,⟨rfl,rfl,rfl⟩,F _ C⟩
  have D:(iE v.cells ((Question.appendCap (sl+d) f e).cut (w.tape w.drawn (.appendCap (sl+d) f e))-(sl+d)))=(fb ((Question.appendCap (sl+d) f e).cut (w.tape w.drawn (.appendCap (sl+d) f e))-(sl+d)) z).toArray:=by
   apply dx;rw[kI,A]
  rcases m with⟨y,hd⟩|hd<;>(simp[eG,aE (d8 G),aE hd,sizeOf,dz hi,g,hc,p,s,Question.forced,c,q,fu hv,lc,D,aJ];rfl)
theorem G9{t:TypeId}{K:Prop}(h:Uz P t K):∃i,P.info? t=some i:=by
 unfold Uz at h;cases hi:P.info? t with
 |none=>rw[hi]at h;exact h.elim
 |some i=>exact⟨i,rfl⟩
theorem Cz{t:TypeId}(h:cx P t≠0):∃i,P.info? t=some i:=by
 cases hi:P.info? t with
 |none=>exact absurd (by simp[cx,hi]) h
 |some i=>exact⟨i,rfl⟩
theorem EZ{size n:Nat}{x:ByteArray}{w:World}:(ft size n (.string x)).run P w=.ok ((dN x).take n).toArray w:=by
 simp only[ft,cd];congr 1
 apply dx;simp[dN,ByteArray.data_extract,jT,←List.map_take]
theorem Aq{t u ty:TypeId}{s x:Value}{K:WK}{w:World}(c:(∃e',P.underlying u=some (.slice e'))∨P.underlying u=some .string)(h:FR P t s x K w.heap):
  Wv P (eG #[t,u] ty #[s,x]) K w:=by
 unfold FR at h;split at h
 ·rename_i e b sl sc a xl xc ht
  have hi:=G9 h;obtain⟨⟨xs,d,f⟩,j⟩:=qg h;exact HH ht c (fun w=>rfl) (fun w' g=>zI (by rw[g];exact d)) hi f
 ·rename_i e b sl sc x ht
  cases hb:aM (cx P e) 1 with
  |false=>rw[hb]at h;exact h.elim
  |true=>
   rw[hb]at h;have i:=bG hb;have m:(dN x).length=x.size:=by simp[dN]
   refine HH ht c (fun w=>rfl) (fun w' _=>?_) (Cz (by omega)) h
   rw[EZ,bL (by omega)]
 ·exact h.elim
theorem Dq{n:Int}(c:0≤n)(b:n≤9223372036854775807):IntKind.i64.wrap n=n:=IntWalk.i64_in n ⟨by omega,b⟩
theorem Qc{t e u ty:TypeId}{b:Option Addr}{sl g:Nat}{k0 k:IntKind}{l:Int}{z:List Value}{K:WK}{w:World}(y:xL P t=some e)(x:P.underlying u=some (.int k0))
  (T:rm P e=some z)(R:z.length=cx P e)(W:0≤l)(Q:l*ru P e≤2^48)(h2:l≤9223372036854775807)(Y:((sl+l.toNat:Nat):Int)≤9223372036854775807)
  (h:VI P e b sl g l.toNat (fb l.toNat z) K w.heap):Wv P (eG #[t,u] ty #[.slice b sl g,.int k l]) K w:=by
 obtain⟨v,hv,B⟩:=kS T;obtain⟨i,hi,X⟩:=sG hv;have j:cx P e=i.size:=by simp[cx,hi]
 have D:ru P e=i.bytes:=by simp[ru,hi]
 have A:IntKind.wrap .i64 l=l:=Dq W h2;have f:¬l<0:=by omega
 rw[D]at Q;have c:¬(281474976710656:Int)<l*i.bytes:=by omega
 have d:∀w':World,(asInt (.int k l)).run P w'=.ok l w':=fun w'=>rfl
 have G:(iE v.cells l.toNat)=(fb l.toNat z).toArray:=by apply dx;rw[kI,B]
 have q:l.toNat*i.size=0→fb l.toNat z= []:=fun N=>by
  have E:(fb l.toNat z).length=l.toNat*i.size:=by rw[←j,←R];unfold fb;simp
  exact ax.1 (by rw[E,N])
 by_cases hc:sl+l.toNat≤g
 ·obtain⟨L,Q,H⟩:=h.1 hc
  refine⟨_,_,?_,eH w (ik w.heap b (sl*cx P e) (fb l.toNat z)),H⟩;cases b with
  |none=>
   by_cases m:l.toNat*i.size=0
   ·simp[eG,aE (d8 y),aE x,sizeOf,dz hi,d,A,f,c,hc,m];rfl
   ·simp[eG,aE (d8 y),aE x,sizeOf,dz hi,d,A,f,c,hc,fu hv];rfl
  |some a=>
   have n:=Gq (P:=P) Q L;rw[j]at n;by_cases m:l.toNat*i.size=0
   ·rw[q m]at n
    simp[eG,aE (d8 y),aE x,sizeOf,dz hi,d,A,f,c,hc,n,ik,j,m,q m]
   ·simp[eG,aE (d8 y),aE x,sizeOf,dz hi,d,A,f,c,hc,n,ik,j,m,fu hv,G]
 ·obtain⟨old,Z,U,F,I,O,H⟩:=h.2 (by omega)
  rw[T]at F;cases F;rw[D]at I O;have S:¬i.bytes=0:=by omega
  have o:¬(281474976710656<mV (sl+l.toNat) g*i.bytes):=by omega
  have V:¬(9223372036854775807:Int)<((sl:Int)+(l.toNat:Int)):=by omega
  have p:¬(9223372036854775807:Int)<((sl:Int)+max l 0):=by omega
  have s:(ft (cx P e) sl (.slice b sl g)).run P w.drew=.ok old.toArray w.drew:=zI U;rw[j]at s;have J:sl+l.toNat≤(Question.appendCap (sl+l.toNat) g e).cut (w.tape w.drawn (.appendCap (sl+l.toNat) g e)):=Nat.le_add_right _ _;refine⟨_,jV w.drew (hnew w.heap (old++fb l.toNat z++fb ((Question.appendCap (sl+l.toNat) g e).cut (w.tape w.drawn (.appendCap (sl+l.toNat) g e))-(sl+l.toNat)) z) e),?_,⟨rfl,rfl,rfl⟩,H _ J⟩
  have C:(iE v.cells ((Question.appendCap (sl+l.toNat) g e).cut (w.tape w.drawn (.appendCap (sl+l.toNat) g e))-(sl+l.toNat)))=(fb ((Question.appendCap (sl+l.toNat) g e).cut (w.tape w.drawn (.appendCap (sl+l.toNat) g e))-(sl+l.toNat)) z).toArray:=by
   apply dx;rw[kI,B]
  by_cases m:l.toNat*i.size=0
  ·rw[q m]at H⊢
   simp[eG,aE (d8 y),aE x,sizeOf,dz hi,d,A,f,c,hc,p,o,Question.forced,s,fu hv,lc,C,aJ,m];rfl
  ·simp[eG,aE (d8 y),aE x,sizeOf,dz hi,d,A,f,c,hc,p,o,Question.forced,s,fu hv,lc,C,aJ,m,G];rfl
theorem Gg{t u ty:TypeId}{k0:IntKind}{s x:Value}{K:WK}{w:World}(d:P.underlying u=some (.int k0))(h:Gh P t s x K w.heap):
  Wv P (eG #[t,u] ty #[s,x]) K w:=by
 unfold Gh at h;split at h
 ·rename_i e b sl sc k l ht
  split at h
  ·rename_i z hz
   cases hb:aM z.length (cx P e)with
   |false=>rw[hb]at h;exact h.elim
   |true=>
    rw[hb]at h;obtain⟨⟨i,g,h2,c⟩,f⟩:=h;exact Qc ht d hz (bG hb) i g h2 c f
  ·exact h.elim
 ·exact h.elim
theorem jX:∀{a b:List Value},cF a=true→cF b=true→cF (a++b)=true
 | [],_,_,h=>h
 |v::a,b,h,k=>by
  simp only[cF,dF,aO]at h⊢;exact⟨h.1,jX h.2 k⟩
theorem Cl{z:List Value}(h:cF z=true):∀n,cF (fb n z)=true
 |0=>rfl
 |n+1=>by
  have:fb (n+1) z=z++fb n z:=by simp[fb,List.replicate_succ]
  rw[this];exact jX h (Cl h n)
theorem KZ{t ty:TypeId}{x:Value}{K:WK}{w:World}(h:OH P t x K w.heap):Wv P (ui #[t] ty #[x]) K w:=by
 unfold OH at h;split at h
 ·rename_i e a n c ht
  split at h
  ·rename_i z hz
   obtain⟨v,hv,d⟩:=kS hz;cases ho:cF z with
   |false=>rw[ho]at h;exact h.elim
   |true=>
    rw[ho]at h;obtain⟨i,g⟩:=h;refine⟨_,_,?_,eH w (ik w.heap a 0 (fb n z)),g⟩;cases a with
    |none=>simp[ui,aE (d8 ht)];rfl
    |some a=>
     cases n with
     |zero=>simp[ui,aE (d8 ht)];rfl
     |succ n=>
      have b:=Gq (P:=P) (Cl ho (n+1)) i;rw[←vH,HJ]at b;have f:(iE v.cells (n+1)).toList=fb (n+1) z:=by rw[kI,d]
      simp[ui,aE (d8 ht),fu hv,f,b,ik]
  ·exact h.elim
 ·exact h.elim
theorem Cm:∀(xs:List Value) (n:Nat),cF xs=true→cF (xs.take n)=true
 | [],n,_=>by simp[cF]
 |x::xs,0,_=>by simp[cF]
 |x::xs,n+1,h=>by
  simp only[cF,aO,List.take_succ_cons]at h⊢;exact⟨h.1,Cm xs n h.2⟩
theorem IC(x:ByteArray):cF (dN x)=true:=by
 have:∀l:List UInt8,cF (l.map fun b=>.int .u8 (b.toNat:Int))=true:=by
  intro l;induction l with
  |nil=>rfl
  |cons b l ih=>simp[cF,ih]
 exact this _
theorem MG{t u ty:TypeId}{d s:Value}{K:WK}{w:World}(h:TG P t d s K w.heap):Wv P (qC #[t,u] ty #[d,s]) K w:=by
 unfold TG at h;split at h
 ·rename_i e b dl dc a sl sc ht
  obtain⟨⟨xs,o,p,q,n⟩,j⟩:=qg h;refine⟨_,_,?_,eH w (ik w.heap b 0 xs),n⟩;have g:=zI (P:=P) (len:=sl) (cap:=sc) o;cases b with
  |none=>simp[qC,aE (d8 ht),qz,j,g,goInt];rfl
  |some c=>
   have f:=Gq (P:=P) (m:=0) q p;simp only[Addr.add,if_pos]at f;simp[qC,aE (d8 ht),qz,j,g,goInt,f,ik]
 ·rename_i e b dl dc x ht
  cases hb:aM (cx P e) 1 with
  |false=>rw[hb]at h;exact h.elim
  |true=>
   rw[hb]at h;have q:=bG hb;obtain⟨i,hi⟩:=Cz (P:=P) (t:=e) (by omega);have j:(sizeOf e).run P w=.ok (cx P e) w:=by simp[sizeOf,dz hi,cx,hi]
   obtain⟨p,n⟩:=h;have y:(dN x).length=x.size:=by simp[dN]
   have v:(dN x).take (fX x.size dl)=(dN x).take dl:=by
    by_cases hx:x.size≤dl
    ·rw[show fX x.size dl=x.size from Nat.min_eq_left hx,bL (by omega),bL (by omega)]
    ·rw[show fX x.size dl=dl from Nat.min_eq_right (by omega)]
   have g:(ft (cx P e) (fX x.size dl) (.string x)).run P w=.ok ((dN x).take dl).toArray w:=by
    rw[EZ,v]
   refine⟨_,_,?_,eH w (ik w.heap b 0 ((dN x).take dl)),n⟩;cases b with
   |none=>simp[qC,aE (d8 ht),qz,j,g,goInt];rfl
   |some c=>
    have f:=Gq (P:=P) (m:=0) (Cm _ dl (IC x)) p;simp only[Addr.add,if_pos]at f;simp[qC,aE (d8 ht),qz,j,g,goInt,f,ik]
 ·exact h.elim
theorem QM(k v:Value)(b:Nat):∀(es:List MapEntry),(match es.findIdx? (fun e=>f6 k e.key)with
  |some i=>(es.modify i (fun e=>{e with key:=k,val:=v}),b)
  |none=>(es++ [{key:=k,val:=v,born:=b}],b+1))=Ln k v b es
 | []=>rfl
 |e::es=>by
  have c:=QM k v b es;simp only[Ln,List.findIdx?_cons];cases hk:f6 k e.key with
  |true=>simp[List.modify]
  |false=>
   simp only[bS,if_false];rw[←c];cases hf:es.findIdx? (fun e=>f6 k e.key)with
   |none=>simp
   |some i=>simp[List.modify]
theorem yM{d:TypeDesc}{c:CK}(hd:pr d c)(x:c.den):∀(es:List MapEntry) (i:Nat),keysOf c es→
  oh d (c.enc x) es i=some (match es.findIdx? (fun e=>f6 (c.enc x) e.key)with
   |some j=>(es[j]?).map fun e=>(i+j,e.val)
   |none=>none)
 | [],i,_=>rfl
 |e::es,i,h=>by
  obtain⟨y,n⟩:=h e (by simp);have f:=EC hd x y;rw[←n]at f;have m:=yM hd x es (i+1) fun g b=>h g (by simp[b])
  simp only[oh,List.findIdx?_cons,f];cases hb:f6 (c.enc x) e.key with
  |true=>simp
  |false=>
   simp only[bS,if_false];rw[m];cases hf:es.findIdx? (fun e=>f6 (c.enc x) e.key)with
   |none=>simp
   |some j=>simp[vP,Nat.add_comm 1 j]
theorem xN{a b:ByteArray}(h:(a==b)=true):a=b:=by
 cases a with|mk a=>cases b with|mk b=>
 have h:(a==b)=true:=h;rw[eq_of_beq h]
theorem yS(a:ByteArray):(a==a)=true:=by
 cases a with|mk a=>
 exact beq_self_eq_true a
theorem Ld{d:TypeDesc}{c:CK}(hd:pr d c)(x y:c.den)(h:f6 (c.enc x) (c.enc y)=true):Instr.sameBits 10000 (c.enc y) (c.enc x)=true:=by
 rcases hd with⟨i,rfl,rfl⟩|⟨rfl,rfl⟩|⟨rfl,rfl⟩
 ·have h:x=y:=eq_of_beq (α:=Int) h
  subst h;have:∀n:Int,(i==i&&n==n)=true:=fun n=>by simp
  exact this x
 ·have h:x=y:=xN h
  subst h;exact yS x
 ·have h:x=y:=eq_of_beq (α:=Bool) h
  subst h;exact beq_self_eq_true (α:=Bool) x
theorem xe{w:World}{r:Nat}{es:Array MapEntry}{b:Nat}{o:Obj}(h:w.heap[r]? =some (.map es b)):(setObj r o).run P w=.ok () (jV w (w.heap.setIfInBounds r o)):=by
 simp only[setObj,ml,h];rfl
theorem PI{t k e:TypeId}{d:TypeDesc}{c:CK}(z:P.underlying t=some (.map k e))(s:P.underlying k=some d)(hd:pr d c){r:Nat}{x:c.den}{v:Value}{w:World}(hm:CV c w.heap r):
  (Instr.mapUpdate t (.map (some r)) (c.enc x) v).run P w=.ok () (jV w (qM w.heap r (c.enc x) v)):=by
 obtain⟨es,b,j,f⟩:=hm;obtain⟨q,A,h2,C⟩:=xo (P:=P) hd s x f w;rw[yM hd x es.toList 0 f]at h2;have g:=QM (c.enc x) v b es.toList;have m:qM w.heap r (c.enc x) v=w.heap.setIfInBounds r (.map (Ln (c.enc x) v b es.toList).1.toArray (Ln (c.enc x) v b es.toList).2):=by
  simp only[qM,j]
 rw[m,←g];simp only[Instr.mapUpdate,bf,aE z,aF,mD j,nV hd s,A];cases hf:es.toList.findIdx? (fun e=>f6 (c.enc x) e.key)with
 |none=>
  rw[hf]at h2;simp only[bX.injEq]at h2;subst h2;simp only[xe j];congr 4
  apply dx;simp
 |some i=>
  rw[hf]at h2;simp only[bX.injEq]at h2;obtain⟨hi,u,_⟩:=List.findIdx?_eq_some_iff_getElem.1 hf;have p:es.toList[i]? =some es.toList[i]:=ag hi;rw[p]at h2;simp only[jU,bK]at h2;subst h2;have n:es[i]? =some es.toList[i]:=by rw[←bP];exact p
  obtain⟨y,B⟩:=f es.toList[i] (List.getElem_mem hi);have o:Instr.sameBits 10000 (es.toList[i]).key (c.enc x)=true:=by
   rw[B]at u⊢;exact Ld hd x y u
  simp only[n,jU,Option.getD_some,Instr.keyThatStays,o,if_true,bf,cd,aF,xe j];congr 4
  apply dx;simp
theorem Ap{t:TypeId}{m k v:Value}{K:WK}{w:World}(h:FQ P t m k v K w.heap):Wu P (Instr.mapUpdate t m k v) K w:=by
 unfold FQ at h;split at h
 ·rename_i c e m hc
  obtain⟨i,d,b,f,hd⟩:=yI hc;obtain⟨j,rfl,r,rfl,hm,g⟩:=CK.dec_sound h;exact⟨_,PI b f hd hm,eH _ _,g⟩
 ·exact h.elim
theorem NZ(k:Value):∀(es:List MapEntry),(match es.findIdx? (fun e=>f6 k e.key)with
  |some i=>es.eraseIdx i
  |none=>es)=Hn k es
 | []=>rfl
 |e::es=>by
  have b:=NZ k es;simp only[Hn,List.findIdx?_cons];cases hk:f6 k e.key with
  |true=>simp
  |false=>
   simp only[bS,if_false];rw[←b];cases hf:es.findIdx? (fun e=>f6 k e.key)<;>simp
theorem Nv{t k e ty:TypeId}{ts:Array TypeId}{d:TypeDesc}{c:CK}(y:ts[0]? =some t) (u:P.underlying t=some (.map k e)) (p:P.underlying k=some d) (hd:pr d c) {r:Nat} {x:c.den} {w:World} (hm:CV c w.heap r):
  (rT ts ty #[.map (some r),c.enc x]).run P w=.ok (.tuple #[]) (jV w (GV w.heap r (c.enc x))):=by
 obtain⟨es,g,m,j⟩:=hm;obtain⟨q,v,h2,z⟩:=xo (P:=P) hd p x j w;rw[yM hd x es.toList 0 j]at h2;have f:=NZ (c.enc x) es.toList;have n:GV w.heap r (c.enc x)=w.heap.setIfInBounds r (.map (Hn (c.enc x) es.toList).toArray g):=by
  simp only[GV,m]
 rw[n,←f];simp only[rT,y,List.getElem?_toArray,List.getElem?_cons_zero,List.getElem?_cons_succ,bf,aE u,aF,mD m,nV hd p,v];cases hf:es.toList.findIdx? (fun e=>f6 (c.enc x) e.key)with
 |none=>
  rw[hf]at h2;simp only[bX.injEq]at h2;subst h2;simp[xe m]
 |some i=>
  rw[hf]at h2;simp only[bX.injEq]at h2;obtain⟨hi,A,_⟩:=List.findIdx?_eq_some_iff_getElem.1 hf;have s:es.toList[i]? =some es.toList[i]:=ag hi;rw[s]at h2;simp only[jU,bK]at h2;subst h2;have o:i<es.size:=by simpa using hi
  have b:es.eraseIdxIfInBounds i=(es.toList.eraseIdx i).toArray:=by
   apply dx;simp[Array.eraseIdxIfInBounds,o]
  simp[xe m,b]
theorem Ge{t ty:TypeId}{ts:Array TypeId}{m k:Value}{K:WK}{w:World}(i:ts[0]? =some t) (h:Gf P t m k K w.heap):Wv P (rT ts ty #[m,k]) K w:=by
 unfold Gf at h;split at h
 ·rename_i c e m hc
  obtain⟨j,d,f,g,hd⟩:=yI hc;obtain⟨n,rfl,h⟩:=CK.dec_sound h;rcases h with⟨rfl,b⟩|⟨r,rfl,hm,b⟩
  ·refine⟨_,w,?_,Tame.refl w,b⟩
   simp[rT,i,aE f,nV hd g]
  ·exact⟨_,_,Nv i f g hd hm,eH _ _,b⟩
 ·exact h.elim
theorem Sn{t k e:TypeId}(c:P.underlying t=some (.map k e)){m:Option Nat}{b:Nat}{w:World}(hm:m=none∧b=0∨∃r es,m=some r∧w.heap[r]? =some (.map es b)):
  (vy t (.map m)).run P w=.ok (.pointer (some (aJ w.heap))) (jV w (w.heap.push (.mapIter m b #[] b))):=by
 rcases hm with⟨rfl,rfl⟩|⟨r,es,rfl,d⟩
 ·simp only[vy,bf,aE c,aF,cd,A4,aJ]
 ·simp only[vy,bf,aE c,aF,cd,mD d,A4,aJ]
theorem Pg{t:TypeId}(b:P.underlying t=some .string){s:ByteArray}{w:World}:
  (vy t (.string s)).run P w=.ok (.pointer (some (aJ w.heap))) (jV w (w.heap.push (.stringIter s 0))):=by
 simp only[vy,bf,aE b,aF,cd,A4,aJ]
theorem yv{w:World}{i:Nat}{m:Option Nat}{b:Nat}{c:Array Nat}{last:Nat}(h:w.heap[i]? =some (.mapIter m b c last)):(getObj i).run P w=.ok (.mapIter m b c last) w:=by
 simp only[getObj,ml,h]
theorem MU{w:World}{i:Nat}{m:Option Nat}{b:Nat}{c:Array Nat}{last:Nat}{o:Obj}(h:w.heap[i]? =some (.mapIter m b c last)):(setObj i o).run P w=.ok () (jV w (w.heap.setIfInBounds i o)):=by
 simp only[setObj,ml,h];rfl
theorem Hx(n:Nat)(b:0<n)(w:World):∃k w',k<n∧(choose (.mapNext n)).run P w=.ok k w'∧Tame w w'∧w'.heap=w.heap:=by
 unfold choose;simp only[ml];by_cases h:(Question.mapNext n).forced=true
 ·exact⟨0,w,b,by rw[if_pos h],Tame.refl w,rfl⟩
 ·refine⟨(Question.mapNext n).cut (w.tape w.drawn (.mapNext n)),{w with drawn:=w.drawn+1},Nat.mod_lt _ b,by rw[if_neg h],⟨rfl,rfl,rfl⟩,rfl⟩
theorem MF{I:Value}{t:TypeId}{K:WK}{w:World}(h:TF I K w.heap):Wv P (qq I false t) K w:=by
 unfold TF at h;split at h
 ·rename_i a
  obtain⟨J,m,i,f,last,hi,h⟩:=h;obtain⟨b,off,N⟩:=a;simp only at J hi h;subst J;rcases h with⟨rfl,R⟩|⟨r,es,v,rfl,O,C,A,H⟩
  ·exact⟨_,w,by simp only[qq,bf,yv hi,aF,cd],Tame.refl w,R⟩
  ·have s:(!f.isEmpty&& !es.isEmpty&&es.all (fun e=>decide (e.born≥last)))=false:=by
    rcases C with h|h|h<;>simp[h]
   obtain⟨left,j⟩:∃left,left=es.filter fun e=> !f.contains e.born:=⟨_,rfl⟩
   obtain⟨old,p⟩:∃old,old=left.filter (·.born<i):=⟨_,rfl⟩
   obtain⟨new,hnew⟩:∃new,new=left.filter (·.born≥i):=⟨_,rfl⟩
   obtain⟨d,g⟩:∃d:Array (Option MapEntry),d=(if old.isEmpty then #[none]else #[])++(old++new).map some:=⟨_,rfl⟩
   have z:0<d.size:=by
    rw[g];by_cases y:old.isEmpty=true
    ·simp[y];omega
    ·have:old.size≠0:=by simpa using y
     simp[y];omega
   obtain⟨k,D,Q,u,L,F⟩:=Hx (P:=P) d.size z w;obtain⟨c,hc⟩:∃c,d[k]? =some c:=⟨d[k],Array.getElem?_eq_getElem Q⟩;have G:D.heap[b]? =some (.mapIter (some r) i f last):=by rw[F];exact hi
   have n:(!f.isEmpty&& !es.isEmpty&&es.all fun x=>decide (x.born≥last))=false:=s
   cases c with
   |none=>
    refine⟨.tuple #[.bool false],D,?_,L,?_⟩
    ·simp only[qq,bf,yv hi,aF,cd,mD O,n,bS,if_false,←j,←p,←hnew,←g,u,hc]
    ·rw[F]
     have q:old.isEmpty=true:=by
      have hm:none∈d:=Array.mem_of_getElem? hc;rw[g]at hm;by_cases y:old.isEmpty=true
      ·exact y
      ·simp[y]at hm
     refine A fun e S E=>?_
     cases hs:f.contains e.born with
     |true=>rfl
     |false=>
      have o:e∈old:=by
       rw[p,j];simp only[qr];exact⟨⟨by simpa using S,by rw[hs];rfl⟩,by simpa using E⟩
      rw[Array.isEmpty_iff]at q;rw[q]at o;simp at o
   |some e=>
    have o:e∈es∧f.contains e.born=false:=by
     have hm:some e∈d:=Array.mem_of_getElem? hc;have B:e∈left:=by
      rw[g]at hm;rw[Array.mem_append]at hm;rcases hm with hm|hm
      ·split at hm<;>simp at hm
      ·simp only[Array.mem_map,bX.injEq,exists_eq_right,Array.mem_append]at hm
       rcases hm with hm|hm
       ·rw[p]at hm;exact(qr.1 hm).1
       ·rw[hnew]at hm;exact(qr.1 hm).1
     rw[j]at B;have:=qr.1 B;exact⟨this.1,by simpa using this.2⟩
    refine⟨.tuple #[.bool true,e.key,e.val],jV D (D.heap.setIfInBounds b (.mapIter (some r) i (f.push e.born) v)),?_,L.trans (eH _ _),?_⟩
    ·simp only[qq,bf,yv hi,aF,cd,mD O,n,bS,if_false,←j,←p,←hnew,←g,u,hc,MU G]
    ·rw[F]
     exact H e (by simpa using o.1) o.2
 ·exact h.elim
theorem KY{j:Value}{t:TypeId}{K:WK}{w:World}(h:OG j K w.heap):Wv P (qq j true t) K w:=by
 unfold OG at h;split at h
 ·rename_i a
  obtain⟨o,s,pos,hi,h⟩:=h;obtain⟨b,off,n⟩:=a;simp only at o hi h;subst o;have m:(getObj b).run P w=.ok (.stringIter s pos) w:=by simp only[getObj,ml,hi]
  rcases h with⟨p,i⟩|⟨c,hc,f,i⟩
  ·exact⟨_,w,by simp only[qq,bf,m,aF,if_neg (eW.2 p),cd],Tame.refl w,i⟩
  ·have d:pos<s.size:=by
    rcases Nat.lt_or_ge pos s.size with g|g
    ·exact g
    ·rw[getElem?_neg s pos (eW.2 g)]at hc;cases hc
   have e:(s[pos]'d)=c:=by rw[getElem?_pos s pos d]at hc;exact bX.inj hc
   have hd:=decode_ascii s pos d (by rw[e];exact f);rw[e]at hd;have q:(setObj b (.stringIter s (pos+1))).run P w=.ok () (jV w (w.heap.setIfInBounds b (.stringIter s (pos+1)))):=by simp only[setObj,ml,hi];rfl
   exact⟨_,_,by simp only[qq,bf,m,aF,if_pos d,hd,q,cd];rfl,eH _ _,i⟩
 ·exact h.elim
theorem Km{w:World}{g n:Nat}(b:n≠0):w.freeze ⟨g,0,none⟩ n=jV w (Q2 w.heap g n):=by
 unfold World.freeze;rw[if_neg b];rfl
theorem ME{t f ty:TypeId}{p n:Value}{K:WK}{w:World}(h:TE P t p n K w.heap):Wv P (Builtin.unsafeString_ #[t,f] ty #[p,n]) K w:=by
 unfold TE at h;split at h
 ·rename_i e a n hu
  cases hc:aM (P.cellsOf e) 1 with
  |false=>rw[hc]at h;exact h.elim
  |true=>
   rw[hc]at h;rcases h with⟨rfl,c⟩|⟨l,g,cs,rfl,rfl,b,o,d,m,hx,c⟩
   ·exact⟨_,w,Lib.run_unsafeString_none ..,Tame.refl w,c⟩
   ·refine⟨_,_,Lib.run_unsafeString_row w t f ty e hu (bG hc) g cs.size (by simp[World.shape?,d]) l b m o ?_,?_,?_⟩
    ·intro j x i
     have:=hx j x i;have e:((⟨g,0,none⟩:Addr).add j)=⟨g,j,none⟩:=by unfold Addr.add;split<;>simp_all
     rw[e];simp[World.cell?,d,this]
    ·rw[Km (by simpa using b)];exact eH _ _
    ·rw[Km (by simpa using b)];exact c
 ·exact h.elim
theorem IE{t e:TypeId}{z:List Value}{k k':IntKind}{l c:Int}{w:World}(s:xL P t=some e)(B:rm P e=some z)(m:z.length=cx P e)(D:0≤l)(E:l≤c)(h2:c≤9223372036854775807)(A:ru P e*c≤2^48):
  (Instr.makeSlice t (.int k l) (.int k' c)).run P w=.ok (.slice (some (aJ w.heap)) l.toNat c.toNat) (jV w (hnew w.heap (fb c.toNat z) e)):=by
 obtain⟨v,hv,f⟩:=kS B;obtain⟨i,hi,C⟩:=sG hv;have d:cx P e=i.size:=by simp[cx,hi]
 have p:ru P e=i.bytes:=by simp[ru,hi]
 have n:v.cells.size=i.size:=by rw[←d,←m,←f];simp
 have y:=Dq D (by omega);have hc:=Dq (show 0≤c by omega) h2
 rw[p]at A;have c1:¬(c<0):=by omega
 have x:¬(281474976710656<(i.bytes:Int)*c):=by omega
 have q:¬(l<0):=by omega
 have u:¬(c<l):=by omega
 by_cases b:c.toNat*i.size=0
 ·have o:(fb c.toNat z).length=0:=by simp[fb,m,d,b]
  rw[ax.1 o];simp[Instr.makeSlice,aE (d8 s),asInt,asIntOf,dz hi,y,hc,c1,x,q,u,sizeOf,b,lc]
 ·have g:((Array.range (c.toNat*i.size)).map (fun j=>v.cells[j%v.cells.size]!))=(fb c.toNat z).toArray:=by
   rw[←n,Qu,f]
  have key:(newRow e ((Array.range (c.toNat*i.size)).map (fun j=>v.cells[j%v.cells.size]!))).run P w=.ok (aJ w.heap) (jV w (hnew w.heap (fb c.toNat z) e)):=by
   rw[g,lc]
  simp[Instr.makeSlice,aE (d8 s),asInt,asIntOf,dz hi,y,hc,c1,x,q,u,sizeOf,b,fu hv];rw[key];rfl
theorem Agree.args{N:Nat}{r:cY}{a:Act}(h:Agree N r a){os:Array Operand}{vs:List Value}(hv:oz r os.toList=some vs):os.map a.eval=vs.toArray:=by
 rw[←mY h hv];apply dx;simp
theorem HC.out{f:FuncId}{args:List Value}{ks:List Kind}{K:WK}{w:World}(h:HC P f args ks (fun x h'=>K (DG ks (na ks x)) h') w.heap):Oc P (callFunc f args.toArray) K w:=by
 rcases h.run w rfl with⟨d,h2⟩|⟨v,w',d,c,x,rfl,b⟩
 ·refine .inr (.inr (.inl ⟨f,args.toArray,d,h2.mono ?_⟩))
  rintro e w' ⟨c,x,rfl,b⟩;exact⟨c,_,rfl,b⟩
 ·exact .inl ⟨_,w',d,c,b⟩
theorem Ta{d b e:TypeId}{s:ByteArray}{w:World}(m:P.underlying d=some .string)(hd:P.underlying b=some (.slice e))(j:P.underlying e=some (.int .u8)):
  ∃c,s.size≤c∧(convert d b (.string s)).run P w=.ok (.slice (some (aJ w.heap)) s.size c) (jV w.drew (w.heap.push (.cells (dN s++gg (c-s.size) (Value.int .u8 0)).toArray e (c,c+1)))):=by
 have g:s.size≤grownCap w s.size 0 e:=Nat.le_add_right _ _;refine⟨_,g,?_⟩;rw[Go.Lib.run_convert_string_bytes w d b e s m hd j];have hc:(Go.Lib.bytesCells w e s).size=grownCap w s.size 0 e:=by
  unfold Go.Lib.bytesCells;rw[Array.size_append,Array.size_map,Array.size_replicate,show s.data.size=s.size from rfl]
  omega
 have f:(dN s++gg (grownCap w s.size 0 e-s.size) (Value.int .u8 0)).toArray=Go.Lib.bytesCells w e s:=by
  unfold Go.Lib.bytesCells dN;apply dx;simp
 rw[f];unfold Go.Lib.bytesWorld World.freeze;rw[if_neg (by omega),hc];unfold World.alloc World.drew jV;congr 1
 congr 1
 apply Array.ext (by simp);intro i n h2;rw[Array.getElem_modify];simp only[Array.getElem_push];split
 ·rename_i e
  subst e;simp
 ·rename_i e
  have hi:i<w.heap.size:=by simp at h2;omega
  rw[dif_pos hi,dif_pos hi]
theorem Dt{o:Oper}{r:cY}{K:WK}{w:World}{N:Nat}{a:Act}(I:Agree N r a)(j:Iu P o r K w.heap):Oc P (execOp a.eval o) K w:=by
 have B:∀{x:Operand} {v:Value},dQ r x=some v→a.eval x=v:=fun h=>kW I h
 obtain⟨U,Y,F,pos,H,L⟩:=o;cases Y with
 |alloc t=>
  simp only[Iu]at j;split at j
  ·rename_i z hz
   obtain⟨v,hv,Q⟩:=kS hz;have E:(Instr.alloc t true (.tuple #[])).run P w=.ok (.pointer (some (aJ w.heap))) (jV w (hnew w.heap z t)):=by
    simp[Instr.alloc,fu hv,newVar,lc,Q]
   exact Wv.out ⟨_,_,E,eH _ _,j⟩
  ·exact j.elim
 |box t x=>
  simp only[Iu]at j;split at j
  ·rename_i v hv
   have E:(Instr.box t v).run P w=.ok (.pointer (some (aJ w.heap))) (jV w (hnew w.heap v.cells.toList t)):=by
    simp[Instr.box,newVar,lc]
   simp only[execOp,B hv];exact Wv.out ⟨_,_,E,eH _ _,j⟩
  ·exact j.elim
 |build t ps=>
  simp only[Iu]at j;split at j
  ·rename_i vs q
   split at j
   ·rename_i cs hcs
    have W:(ps.map fun x=>(x.1,a.eval x.2))=vs.toArray:=by
     rw[←po I q];apply dx;simp
    have E:=CI (ps:=vs.toArray) (by simpa using hcs) w;simp only[execOp];rw[show(ps.map fun(i,x)=>(i,a.eval x))=vs.toArray from W]
    exact Wv.out ⟨_,w,E,Tame.refl w,j⟩
   ·exact j.elim
  ·exact j.elim
 |buildSlice t n ps=>
  simp only[Iu]at j;split at j
  ·rename_i e vs J q
   split at j
   ·rename_i z hz
    cases hb:(xE (n*cx P e) 16777216&&aM z.length (cx P e))with
    |false=>rw[hb]at j;exact j.elim
    |true=>
     rw[hb]at j;simp only[aO]at hb;simp only[cond_true]at j;split at j
     ·rename_i cs hcs
      have W:(ps.map fun x=>(x.1,a.eval x.2))=vs.toArray:=by
       rw[←po I q];apply dx;simp
      have E:=D6 (ps:=vs.toArray) J hz (gO hb.1) (bG hb.2) (by simpa using hcs) w;simp only[execOp];rw[show(ps.map fun(i,x)=>(i,a.eval x))=vs.toArray from W]
      exact Wv.out ⟨_,_,E,eH _ _,j⟩
     ·exact j.elim
   ·exact j.elim
  ·exact j.elim
 |store t x y=>
  simp only[Iu]at j;split at j
  ·rename_i b v hb hv
   simp only[execOp,B hb,B hv];exact Wu.out (KW j)
  ·exact j.elim
 |mapUpdate t m k x=>
  simp only[Iu]at j;split at j
  ·rename_i mv kv xv hm C hx
   simp only[execOp,B hm,B C,B hx];exact Wu.out (Ap j)
  ·exact j.elim
 |insert t m k x=>
  simp only[Iu]at j;split at j
  ·rename_i mv kv xv hm C hx
   simp only[execOp,B hm,B C,B hx];exact Wu.out (Ap j)
  ·exact j.elim
 |makeMap t n=>
  simp only[Iu]at j;cases n with
  |none=>exact Wv.out ⟨_,jV w (w.heap.push (.map #[] 0)),by simp[Instr.makeMap];rfl,eH _ _,j⟩
  |some n=>
   simp only at j;split at j
   ·rename_i k i hn J
    exact Wv.out ⟨_,jV w (w.heap.push (.map #[] 0)),by simp[Instr.makeMap,B hn,aE J,asInt,asIntOf];rfl,eH _ _,j⟩
   ·exact j.elim
 |makeSlice t l c=>
  simp only[Iu]at j;split at j
  ·rename_i e k l' k' c' J S hc
   split at j
   ·rename_i z hz
    cases hb:aM z.length (cx P e)with
    |false=>rw[hb]at j;exact j.elim
    |true=>
     rw[hb]at j;obtain⟨⟨Z,V,h2,h3⟩,j⟩:=j;simp only[execOp,B S,B hc];exact Wv.out ⟨_,_,IE J hz (bG hb) Z V h2 h3,eH _ _,j⟩
   ·exact j.elim
  ·exact j.elim
 |convert s d x=>
  simp only[Iu]at j;split at j
  ·rename_i e v T hd hx
   cases hu:PP P e with
   |false=>rw[hu]at j;exact j.elim
   |true=>
    rw[hu]at j;obtain⟨c,hc,O⟩:=Ta (w:=w) (s:=v) T hd (G8 hu);simp only[execOp,B hx];exact Wv.out ⟨_,_,O,⟨rfl,rfl,rfl⟩,j c hc⟩
  ·exact j.elim
 |range t x=>
  simp only[Iu]at j;split at j
  ·rename_i k e m hu hx
   obtain⟨X,hm,j⟩:=j;simp only[execOp,B hx];exact Wv.out ⟨_,_,Sn hu hm,eH _ _,j⟩
  ·rename_i s hu hx
   simp only[execOp,B hx];exact Wv.out ⟨_,_,Pg hu,eH _ _,j⟩
  ·exact j.elim
 |next it isS=>
  cases isS with
  |true=>
   simp only[Iu]at j;split at j
   ·rename_i v hv
    simp only[execOp,B hv];exact Wv.out (KY j)
   ·exact j.elim
  |false=>
   simp only[Iu]at j;split at j
   ·rename_i v hv
    simp only[execOp,B hv];exact Wv.out (MF j)
   ·exact j.elim
 |call c=>
  simp only[Iu]at j;have eb:∀{b:Builtin} {vs:List Value},c.callee=.builtin b→oz r c.args.toList=some vs→∃cs:Array Bool,∀w,(execOp a.eval ⟨U,.call c,F,pos,H,L⟩).run P w=
    (builtin b c.argTypes F cs vs.toArray).run P w:=by
   intro b vs hc q;refine⟨c.args.map fun| .const _=>true|_=>false,fun w=>?_⟩
   simp[execOp,resolve,hc,I.args q,invoke];rfl
  have G:∀{s s':Sem Next},(∀w,s.run P w=s'.run P w)→Oc P s' K w→Oc P s K w:=by
   intro s s' E h;unfold Oc at h⊢;simp only[E];exact h
  split at j
  ·rename_i s x hc q
   split at j
   ·rename_i t u hat
    obtain⟨cs,D⟩:=eb hc q;refine G D ?_;have A:c.argTypes= #[t,u]:=by apply dx;rw[hat]
    simp only[builtin,A];split at j
    ·rename_i e' hu;exact Wv.out (Aq (.inl ⟨e',hu⟩) j)
    ·rename_i hu;exact Wv.out (Aq (.inr hu) j)
    ·rename_i k0 hu;exact Wv.out (Gg hu j)
    ·exact j.elim
   ·exact j.elim
  ·rename_i x hc q
   split at j
   ·rename_i t hat
    obtain⟨cs,D⟩:=eb hc q;refine G D ?_;have A:c.argTypes= #[t]:=by apply dx;rw[hat]
    simp only[builtin,A];exact Wv.out (KZ j)
   ·exact j.elim
  ·rename_i s x hc q
   split at j
   ·rename_i t u hat
    obtain⟨cs,D⟩:=eb hc q;refine G D ?_;have A:c.argTypes= #[t,u]:=by apply dx;rw[hat]
    simp only[builtin,A];exact Wv.out (MG j)
   ·exact j.elim
  ·rename_i p n hc q
   split at j
   ·rename_i t u hat
    obtain⟨cs,D⟩:=eb hc q;refine G D ?_;have A:c.argTypes= #[t,u]:=by apply dx;rw[hat]
    simp only[builtin,A];exact Wv.out (ME j)
   ·exact j.elim
  ·rename_i m k hc q
   split at j
   ·rename_i t u hat
    obtain⟨cs,D⟩:=eb hc q;refine G D ?_;simp only[builtin];exact Wv.out (Ge (by rw[←bP,hat];rfl) j)
   ·exact j.elim
  ·rename_i f args hc q
   unfold XN at j;split at j
   ·exact j.elim
   ·rename_i ks hks
    split at j
    ·rename_i f
     refine G (s':=callFunc f args.toArray) (fun w=>?_) j.out
     simp[execOp,resolve,hc,I.args q,Act.eval,Deferred.ofValue,invoke]
    ·rename_i f hf
     split at j
     ·rename_i fv hfv
      rcases j.run with⟨g,first,cap,rfl,R⟩|⟨l,rfl,R⟩
      rotate_left
      ·obtain⟨fn,tmps,assign,body,V,h2⟩:=R.run w rfl
       refine .inr (.inr (.inr ⟨l,fn,tmps,assign,body,?_,fun c cs=>?_⟩))
       ·rw[←V]
        simp[execOp,resolve,hc,I.args q,B hfv,Deferred.ofValue,invoke]
       ·obtain⟨b,w',J,C,T⟩:=h2 c cs
        refine⟨b,w',J,?_,T⟩;obtain⟨t,e,C⟩:=tI C;have S:ks.length=1:=by rw[←uz ks t,←e];rfl
        match ks,S,t,e,C with
        | [k],_,t,e,C=>rw[←e]at C;exact C
      refine G (s':=callFunc g (first.toList++args++cap.toList).toArray) (fun w=>?_) R.out
      have e:first++args.toArray++cap=(first.toList++args++cap.toList).toArray:=by apply dx;simp
      rw[←e];simp[execOp,resolve,hc,I.args q,B hfv,Deferred.ofValue,invoke]
     ·exact j.elim
  ·exact j.elim
 |_=>simp only[Iu]at j
end Go.Lift
