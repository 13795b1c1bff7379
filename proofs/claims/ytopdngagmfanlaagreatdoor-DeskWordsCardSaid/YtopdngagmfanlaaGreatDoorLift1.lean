/- A part of the proof that the named laws of this program answer true, whatever the input. -/
import Derived.Test.YtopdngagmfanlaaGreatDoorLift0
import Derived.Laws.Append
import Derived.Laws.Cover3
import Derived.Laws.StructEq
import Derived.Laws.BytesString
import Derived.Lib.UnsafeStr
import Derived.Laws.RangeString
import Derived.Lib.ConvBytes
open Array renaming ext'→cr,getElem?_toList→aS,mem_of_getElem?→nH,mem_filter→oh
open Bool renaming and_eq_true→aQ,false_eq_true→cM
open ByteArray renaming data_extract→gw
open Go.Builtin renaming firstCells→dR,len_→jt,cap_→tY,zeroCells→gf,lenOf→oC,append_→c8,nextslicecap→kw,clear_→qW,copy_→oD,delete_→pB
open Go.Instr renaming sureAddr→kr,sliceBounds→fc,sliceAt→oB,sameNow→sD,findNow→lP,lookup→tW,range→rW,next→oe
open Go.Op renaming equalIn→eY
open Go.Result renaming andThen_ok→ar
open Go.Sem renaming run_bind→aH,run_pure→bd,run→lW
open List renaming extract_eq_take_drop→fy,map_cons→cn,map_map→kZ,take_of_length_le→bq,length_cons→aV,cons_append→ld,replicate→bw,length_eq_zero_iff→aY,getElem?_eq_getElem→aJ
open Nat renaming beq→ax,ble→vZ,eq_of_beq_eq_true→aL,le_of_ble_eq_true→gU,add_zero→iv,zero_add→aD,min→cZ,not_lt→gO
open Option renaming some→aZ,isSome_iff_exists→fU,map_some→lX
open Prod renaming mk→tT
open UInt8 renaming ofNat→bP
namespace Go.Lift
open Go
def PQ(S:Option (ad→Prop))(h:ad):Prop:=match S with|none=>True|some f=>f h
def Yv(P:Program)(s:Sem Value)(K:RK)(h:ad):Prop:=∃v S,K v S∧PQ S h∧∀w:World,PQ S w.heap→s.run P w=.ok v w
theorem Yv.of_pure{P:Program}{s:Sem Value}{K:RK}{h:ad}{v:Value}(a:K v none)(b:∀w:World,s.run P w=.ok v w):Yv P s K h:=
 ⟨v,none,a,trivial,fun w _=>b w⟩
variable {P:Program}
theorem uV{t:TypeId}{f:Nat}{u:TypeId}{off:Nat}(h:uW P t f=some (u,off)):
  ∃fs g,P.underlying t=some (.struct fs)∧fs[f]? =some g∧g.type=u∧g.offset=off:=by
 unfold uW at h;split at h
 ·rename_i fs hu
  split at h
  ·rename_i g hg
   simp only[aZ.injEq,tT.injEq]at h;exact⟨fs,g,hu,by simpa using hg,h.1,h.2⟩
  ·cases h
 ·cases h
theorem xd{t:TypeId}(h:ax (bF P t) 0=false)(w:World):(sizeOf t).run P w=.ok (bF P t) w:=by
 unfold bF at h⊢;cases hi:P.info? t with
 |none=>rw[hi]at h;cases h
 |some i=>simp[sizeOf,cx hi]
theorem BO{t:TypeId}{f:Nat}{u:TypeId}{off:Nat}{a:Addr}{K:RK}{h:ad}(d:uW P t f=some (u,off))
  (b:bif ax (bF P u) 0 then False else K (.pointer (some (adr a off))) none):Yv P (Instr.fieldAt t (.pointer (some a)) f) K h:=by
 obtain⟨k,g,j,i,rfl,rfl⟩:=uV d;cases hz:ax (bF P g.type) 0 with
 |true=>rw[hz]at b;exact b.elim
 |false=>
  rw[hz]at b;refine .of_pure b fun w=>?_
  have c:bF P g.type≠0:=fun e=>by rw[e]at hz;cases hz
  simp only[Instr.fieldAt,aH,aq j,ar,i,kr,bd,fieldPlace,xd hz];simp[c,si]
theorem tQ{t:TypeId}{i:TypeInfo}(_:P.info? t=some i)(a:∃d,P.underlying t=some d)(w:World):(isAgg t).run P w=.ok (tR P t) w:=by
 obtain⟨d,hd⟩:=a;simp only[isAgg,aH,aq hd,ar];unfold tR;rw[hd];cases d<;>rfl
theorem yf{c:BinOp}{k k':IntKind}{a b:Int}{K:RK}{h:ad}(g:c=.shl∨c=.shr)(f:Jy c k a b K):Yv P (Op.shift c k a k' b) K h:=by
 rcases g with rfl|rfl
 ·obtain⟨e,d⟩:=f
  refine .of_pure d fun w=>?_
  simp[Op.shift,Int.not_lt.2 e]
 ·obtain⟨e,d⟩:=f
  refine .of_pure d fun w=>?_
  simp[Op.shift,Int.not_lt.2 e]
theorem Kl{c:BinOp}{k:IntKind}{a b:Int}{K:RK}{h:ad}(d:Rz c k a b K)(g:c≠ .shl∧c≠ .shr):Yv P (binOp c 0 (.int k a) (.int k b)) K h:=by
 cases c<;>simp only[Rz]at d
 case quo=>obtain⟨f,e⟩:=d;exact .of_pure e fun w=>by simp[binOp,Op.intDiv,f]
 case rem=>obtain⟨f,e⟩:=d;exact .of_pure e fun w=>by simp[binOp,Op.intDiv,f]
 all_goals exact .of_pure d fun w=>by simp[binOp,Op.intArith,Op.intBits,Op.intCmp]
theorem DB(c:BinOp)(t:TypeId)(k k':IntKind)(a b:Int):binOp c t (.int k a) (.int k' b)=binOp c 0 (.int k a) (.int k' b):=by
 cases c<;>rfl
theorem Jw{c:BinOp}{t:TypeId}{a b:ByteArray}{K:RK}{h:ad}(d:Ri c a b K):Yv P (binOp c t (.string a) (.string b)) K h:=by
 cases c<;>simp only[Ri]at d
 case add=>
  obtain⟨f,e⟩:=d;refine .of_pure e fun w=>?_
  have:¬(((a.size+b.size:Nat):Int)>IntKind.i64.max):=by
   have:IntKind.i64.max=9223372036854775807:=by decide
   omega
  simp only[binOp,Op.stringOp,if_neg this,bd]
 all_goals exact .of_pure d fun w=>by simp[binOp,Op.stringOp]
theorem im{t:TypeId}{x y:Value}{b:Bool}{w:World}(h:∀d,(eY (d+1) t x y).run P w=.ok b w):(Op.equal t x y).run P w=.ok b w:=h 9999
theorem Dj{t:TypeId}{e:TypeId}(b:P.underlying t=some (.pointer e))(a:Option Addr)(w:World):(Op.equal t (.pointer a) (.pointer none)).run P w=.ok a.isNone w:=by
 refine im fun d=>?_
 simp only[eY,aH,aq b,ar];cases a<;>rfl
theorem KB(e:BinOp)(t:TypeId)(x y:Operand)(a b:Value)(h:∀c d,a=.agg c→b=.agg d→False)(hi:a=.nilIface→b=.nilIface→False)(w:World):
  (eqGuard e t x y a b).run P w=.ok () w:=by
 cases e;case eql=>cases a<;>cases b<;>first|rfl|exact(hi rfl rfl).elim|exact(h _ _ rfl rfl).elim
 case neq=>cases a<;>cases b<;>first|rfl|exact(hi rfl rfl).elim|exact(h _ _ rfl rfl).elim
 all_goals rfl
theorem M7(t:TypeId)(x y:Value)(hx:∀k a,x≠ .int k a)(c:∀s,x≠ .string s)(d:∀k a,x≠ .float k a)(hc:∀k a b,x≠ .complex k a b):binOp .eql t x y=(do pure (.bool (←Op.equal t x y))):=by
 cases x<;>first|rfl|exact absurd rfl (hx _ _)|exact absurd rfl (c _)|exact absurd rfl (d _ _)|exact absurd rfl (hc _ _ _)
theorem M6(t:TypeId)(x y:Value)(hx:∀k a,x≠ .int k a)(c:∀s,x≠ .string s)(d:∀k a,x≠ .float k a)(hc:∀k a b,x≠ .complex k a b):binOp .neq t x y=(do pure (.bool (!(←Op.equal t x y)))):=by
 cases x<;>first|rfl|exact absurd rfl (hx _ _)|exact absurd rfl (c _)|exact absurd rfl (d _ _)|exact absurd rfl (hc _ _ _)
theorem ip{t:TypeId}{neg:Bool}{x y:Value}{b:Bool}{w:World}(e:(Op.equal t x y).run P w=.ok b w)
  (hx:∀k a,x≠ .int k a)(c:∀s,x≠ .string s)(d:∀k a,x≠ .float k a)(hc:∀k a b,x≠ .complex k a b):
  (binOp (bif neg then .neq else .eql) t x y).run P w=.ok (.bool (bif neg then !b else b)) w:=by
 cases neg
 ·simp only[cond_false,M7 t x y hx c d hc,aH,e,ar,bd]
 ·simp only[cond_true,M6 t x y hx c d hc,aH,e,ar,bd]
theorem Kj{x:Value}(h:Ry x=true):(∃f a b,x=.func f a b)∨x=.nilFunc:=by
 cases x<;>first|exact .inr rfl|exact .inl ⟨_,_,_,rfl⟩|cases h
theorem Ki{x:Value}(h:Qm x=true):(∃t v,x=.iface t v)∨x=.nilIface:=by
 cases x<;>first|exact .inr rfl|exact .inl ⟨_,_,rfl⟩|cases h
theorem Gq{y:Operand}(h:OG y=true):∃c,y=.const c:=by
 cases y<;>first|exact⟨_,rfl⟩|cases h
theorem Im(e:BinOp)(t:TypeId)(x:Operand)(c a b:Value)(h:∀c d,a=.agg c→b=.agg d→False)(w:World):
  (eqGuard e t x (.const c) a b).run P w=.ok () w:=by
 cases e;case eql=>cases a<;>cases b<;>first|rfl|exact(h _ _ rfl rfl).elim|(cases x<;>rfl)
 case neq=>cases a<;>cases b<;>first|rfl|exact(h _ _ rfl rfl).elim|(cases x<;>rfl)
 all_goals rfl
theorem CT{t:TypeId}{neg:Bool}{x y:Value}{K:RK}{h:ad}(g:Qd P t neg x y K):
  (∀c d,x=.agg c→y=.agg d→False)∧Yv P (binOp (bif neg then .neq else .eql) t x y) K h:=by
 unfold Qd at g;split at g
 ·rename_i e a hu
  refine⟨nofun,.of_pure g fun w=>?_⟩
  exact ip (Dj hu a w) nofun nofun nofun nofun
 ·rename_i k e a hu
  refine⟨nofun,.of_pure g fun w=>?_⟩
  refine ip ?_ nofun nofun nofun nofun;refine im fun d=>?_
  simp only[eY,aH,aq hu,ar];cases a<;>rfl
 ·rename_i e a _ _ _ _ hu
  refine⟨nofun,.of_pure g fun w=>?_⟩
  refine ip ?_ nofun nofun nofun nofun;refine im fun d=>?_
  simp only[eY,aH,aq hu,ar];cases a<;>rfl
 ·rename_i hu
  obtain⟨hx,i⟩:=g;rcases Kj hx with⟨f,a,b,e⟩|e<;>subst e
  ·refine⟨nofun,.of_pure i fun w=>ip (im fun d=>?_) nofun nofun nofun nofun⟩
   simp only[eY,aH,aq hu,ar];rfl
  ·refine⟨nofun,.of_pure i fun w=>ip (im fun d=>?_) nofun nofun nofun nofun⟩
   simp only[eY,aH,aq hu,ar];rfl
 ·rename_i hu
  obtain⟨hx,i⟩:=g;rcases Ki hx with⟨f,a,e⟩|e<;>subst e
  ·refine⟨nofun,.of_pure i fun w=>ip (im fun d=>?_) nofun nofun nofun nofun⟩
   simp only[eY,aH,aq hu,ar];rfl
  ·refine⟨nofun,.of_pure i fun w=>ip (im fun d=>?_) nofun nofun nofun nofun⟩
   simp only[eY,aH,aq hu,ar];rfl
 ·exact g.elim
theorem uH{w:World}{a b:Addr}(f:f0 w.heap a)(d:f0 w.heap b):(sameAddr a b).run P w=.ok (a==b) w:=by
 obtain⟨j,q,f,y⟩:=f;obtain⟨i,u,d,sb⟩:=d;by_cases c:a.block=b.block
 ·simp[sameAddr,c]
 ·have g:(a==b)=false:=by
   rw[beq_eq_false_iff_ne];intro e;exact c (by rw[e])
  have k:w.shape? a.block=some (q,j.size):=by simp[World.shape?,f]
  have p:w.shape? b.block=some (u,i.size):=by simp[World.shape?,d]
  have v:∀n,w.frozen? ({block:=a.block,off:=n}:Addr)=false:=fun n=>by simp[World.frozen?,f]
  have o:∀n,w.frozen? ({block:=b.block,off:=n}:Addr)=false:=fun n=>by simp[World.frozen?,d]
  have t:w.frozen? a=false:=by simp[World.frozen?,f]
  have x:w.frozen? b=false:=by simp[World.frozen?,d]
  obtain⟨m,hm⟩:∃m,j.size=m+1:=⟨j.size-1,by omega⟩
  obtain⟨n,s⟩:∃n,i.size=n+1:=⟨i.size-1,by omega⟩
  simp[sameAddr,c,noView,viewAt,mayBeOne,stringish,k,p,v,o,t,x,hm,s,g]
theorem Fv{t:TypeId}{neg:Bool}{x y:Value}{K:RK}{h:ad}(g:S6 P t neg x y K h):
  (∀c d,x=.agg c→y=.agg d→False)∧(x=.nilIface→y=.nilIface→False)∧Yv P (binOp (bif neg then .neq else .eql) t x y) K h:=by
 unfold S6 at g;split at g
 ·rename_i a b hu
  refine⟨nofun,nofun,.of_pure g fun w=>?_⟩
  refine ip ?_ nofun nofun nofun nofun;refine im fun d=>?_
  simp only[eY,aH,aq hu,ar,bd]
 ·rename_i e a b hu
  obtain⟨j,o,k⟩:=g;refine⟨nofun,nofun,_,_,k,o,fun w m=>?_⟩
  refine ip ?_ nofun nofun nofun nofun;have f:ax (bF P e) 0=false:=by
   cases hb:ax (bF P e) 0 with
   |false=>rfl
   |true=>rw[hb]at j;exact j.elim
  have i:bF P e≠0:=fun e=>by rw[e]at f;cases f
  refine im fun d=>?_
  simp only[eY,aH,aq hu,ar];cases a with
  |none=>cases b<;>rfl
  |some a=>cases b with
   |none=>rfl
   |some b=>
    obtain⟨n,p⟩:=m a b rfl rfl;simp only[aH,xd f,ar,ne_eq,i,not_false_eq_true,if_true,uH n p];rfl
 ·exact g.elim
theorem xi{f:BinOp}{t:TypeId}{x y:Value}{K:RK}{h:ad}(e:P8 P f t x y K h):
  (∀c d,x=.agg c→y=.agg d→False)∧(x=.nilIface→y=.nilIface→False)∧Yv P (binOp f t x y) K h:=by
 unfold P8 at e;split at e
 ·rename_i k a k' b
  refine⟨nofun,nofun,?_⟩;rw[DB];split at e
  ·exact yf (k':=k') (.inl rfl) e
  ·exact yf (k':=k') (.inr rfl) e
  ·rename_i h1 h2
   cases hk:Gu k' k with
   |false=>rw[hk]at e;exact e.elim
   |true=>rw[hk]at e;have:=yx hk;subst this;exact Kl e ⟨h1,h2⟩
 ·exact⟨nofun,nofun,Jw e⟩
 ·split at e
  ·exact Fv (neg:=false) e
  ·exact Fv (neg:=true) e
  ·exact e.elim
theorem HS{u:TypeId}{cs:List Value}{off:Nat}(a:((P.underlying u).isSome&&(P.info? u).isSome)=true){w:World}(c:tR P u=true):
  (part u cs.toArray off).run P w=.ok (.agg ((cs.drop off).take (bF P u)).toArray) w:=by
 simp only[aQ,fU]at a;obtain⟨a,i,hi⟩:=a;have b:(sizeOf u).run P w=.ok (bF P u) w:=by simp[sizeOf,cx hi,bF,hi]
 simp only[part,aH,tQ hi a,ar,c,if_true,b,bd];congr 2
 apply cr;simp[fy]
theorem E0{u:TypeId}{cs:List Value}{off:Nat}(a:((P.underlying u).isSome&&(P.info? u).isSome)=true){w:World}(c:tR P u=false){v:Value}(hc:cs[off]? =some v):
  (part u cs.toArray off).run P w=.ok v w:=by
 simp only[aQ,fU]at a;obtain⟨a,i,hi⟩:=a;have b:cs.toArray[off]? =some v:=by simpa using hc
 simp only[part,aH,tQ hi a,ar,c,cM,if_false,b,bd]
theorem xj{h:ad}:∀{l m:List (Option Addr×Option Addr)},qj h (l++m)→qj h l∧qj h m
 | [],_,h=>⟨trivial,h⟩
 |(_,_)::_,_,h=>⟨⟨h.1,(xj h.2).1⟩,(xj h.2).2⟩
theorem Il{t:TypeId}{x y:Value}{b:Bool}{l:List (Option Addr×Option Addr)}(f:OZ P t x y=some (b,l)){w:World}(j:qj w.heap l)(d:Nat):
  (eY (d+1) t x y).run P w=.ok b w:=by
 unfold OZ at f;split at f
 ·rename_i k0 k a k' c hu
  cases hk:Gu k' k with
  |false=>rw[hk]at f;cases f
  |true=>
   rw[hk]at f;have:=yx hk;subst this;cases f;exact run_equalIn_int w d t _ _ _ _ hu
 ·rename_i a c hu
  cases f;exact run_equalIn_bool w d t _ _ hu
 ·rename_i a c hu
  cases f;exact run_equalIn_string w d t _ _ hu
 ·rename_i e a c hu
  cases hz:ax (bF P e) 0 with
  |true=>rw[hz]at f;cases f
  |false=>
   rw[hz]at f;cases f;have g:bF P e≠0:=fun e=>by rw[e]at hz;cases hz
   simp only[eY,aH,aq hu,ar];cases a with
   |none=>cases c<;>rfl
   |some a=>cases c with
    |none=>rfl
    |some c=>
     obtain⟨i,m⟩:=j.1 a c rfl rfl;simp only[aH,xd hz,ar,ne_eq,g,not_false_eq_true,if_true,uH i m];rfl
 ·cases f
theorem Dk{rec:TypeId→List Value→List Value→Option (Bool×List (Option Addr×Option Addr))}{d:Nat}{xs ys:List Value}{w:World}
  (e:∀t us vs b l,rec t us vs=some (b,l)→qj w.heap l→(eY (d+1) t (.agg us.toArray) (.agg vs.toArray)).run P w=.ok b w):
  ∀(fs:List Field) (b:Bool) (l:List (Option Addr×Option Addr)),Qz P rec xs ys fs=some (b,l)→qj w.heap l→(Op.eqFields (d+1) xs.toArray ys.toArray fs).run P w=.ok b w
 | [],b,l,he,_=>by cases he;rfl
 |f::fs,b,l,he,hp=>by
  unfold Qz at he;split at he
  ·cases he
  ·rename_i hn
   cases hi:((P.underlying f.type).isSome&&(P.info? f.type).isSome)with
   |false=>rw[hi]at he;cases he
   |true=>
    rw[hi]at he;simp only[cond_true]at he;split at he
    ·rename_i b1 l1 c m e1 e2
     cases he;obtain⟨g,j⟩:=xj hp;have a:=Dk e fs c m e2 j;have o:∃u v,(part f.type xs.toArray f.offset).run P w=.ok u w∧(part f.type ys.toArray f.offset).run P w=.ok v w∧(eY (d+1) f.type u v).run P w=.ok b1 w:=by
      cases ha:tR P f.type with
      |true=>
       rw[ha]at e1;exact⟨_,_,HS hi ha,HS hi ha,e _ _ _ _ _ e1 g⟩
      |false=>
       rw[ha]at e1;simp only[cond_false]at e1;split at e1
       ·rename_i x y hx hy
        exact⟨x,y,E0 hi ha hx,E0 hi ha hy,Il e1 g d⟩
       ·cases e1
     obtain⟨u,v,n,k,i⟩:=o;simp only[Op.eqFields,ne_eq,hn,not_false_eq_true,if_true,aH,n,k,i,ar];cases b1
     ·rfl
     ·exact a
    ·cases he
theorem xu{w:World}:∀(m:Nat) (t:TypeId) (xs ys:List Value) (b:Bool) (l:List (Option Addr×Option Addr)),O0 P m t xs ys=some (b,l)→qj w.heap l→
  ∀d,(eY (d+m+1) t (.agg xs.toArray) (.agg ys.toArray)).run P w=.ok b w
 |0,_,_,_,_,_,he,_,_=>by cases he
 |m+1,t,xs,ys,b,l,he,hp,d=>by
  unfold O0 at he;split at he
  ·rename_i fs hu
   cases hs:P.stoodInHeld t with
   |true=>rw[hs]at he;cases he
   |false=>
    rw[hs]at he;have a:P.fieldsOf t=fs:=by simp[Program.fieldsOf,hu]
    rw[run_equalIn_struct w _ t _ _ (by rw[a];exact hu) hs,a];exact Dk (d:=d+m) (fun t f vs b l c e=>xu m t f vs b l c e d) fs.toList b l he hp
  ·cases he
theorem Fw{neg b:Bool}{K:RK}{h:ad}{l:List (Option Addr×Option Addr)}(a:TM neg b K h l):∃S,K (.bool (bif neg then !b else b)) S∧PQ S h∧∀h',PQ S h'→qj h' l:=by
 cases l with
 |nil=>exact⟨none,a,trivial,fun _ _=>trivial⟩
 |cons p l=>exact⟨_,a.2,a.1,fun _ h=>h⟩
theorem JS{d:BinOp}{t:TypeId}{xs ys:Array Value}{x y:Operand}{K:RK}{h:ad}(a:Rq P d t xs.toList ys.toList K h):
  ∃v S,K v S∧PQ S h∧∀w:World,PQ S w.heap→(do eqGuard d t x y (.agg xs) (.agg ys);binOp d t (.agg xs) (.agg ys):Sem Value).run P w=.ok v w:=by
 unfold Rq at a;cases hg:P.eqGuardType P.depth t with
 |true=>rw[hg]at a;exact a.elim
 |false=>
  rw[hg]at a;simp only[cond_false]at a;split at a
  ·split at a
   ·rename_i b l he
    obtain⟨S,f,g,c⟩:=Fw a;refine⟨_,S,f,g,fun w e=>?_⟩
    have:=xu 10 t _ _ b l he (c _ e) 9989;simp only[Array.toArray_toList]at this;simp only[aH,run_eqGuard_agg w _ t x y _ _ hg,ar,run_eql_struct,this];rfl
   ·exact a.elim
  ·split at a
   ·rename_i b l he
    obtain⟨S,f,g,c⟩:=Fw a;refine⟨_,S,f,g,fun w e=>?_⟩
    have:=xu 10 t _ _ b l he (c _ e) 9989;simp only[Array.toArray_toList]at this;simp only[aH,run_eqGuard_agg w _ t x y _ _ hg,ar,run_neq_struct,this];rfl
   ·exact a.elim
  ·exact a.elim
theorem Mh{b:UnOp}{x:Value}{K:RK}{h:ad}(a:Tm b x K):Yv P (Op.unary b x) K h:=by
 unfold Tm at a;split at a
 ·exact .of_pure a fun w=>rfl
 ·exact .of_pure a fun w=>rfl
 ·exact .of_pure a fun w=>rfl
 ·exact a.elim
theorem Dz:∀(l:List UInt8) (s:ByteArray),(l.map fun b=>((b.toNat:Nat):Int)).foldl (fun r n=>r.push (bP n.toNat)) s=⟨s.data++l.toArray⟩
 | [],s=>by simp
 |b::l,s=>by
  simp only[cn,List.foldl_cons];rw[Dz l];congr 1
  have:bP ((b.toNat:Nat):Int).toNat=b:=by simp
  rw[this];apply cr;simp[ByteArray.push]
theorem C2{e:TypeId}(h:Kh P e=true):P.underlying e=some (.int .u8):=by
 unfold Kh at h;split at h
 ·assumption
 ·cases h
theorem HA{w:World}{a:Addr}{vs:List Value}(c:Row w.heap a vs):(loadCells a vs.length).run P w=.ok vs.toArray w:=by
 have:=run_firstCells_some (P:=P) w 1 vs.length a 0 0 vs (by simp) fun j v b=>by rw[←si];exact c j v b
 simpa[dR]using this
theorem HJ{g j:TypeId}{x:Value}{K:RK}{h:ad}(f:Oi P g j x K h):Yv P (convert g j x) K h:=by
 unfold Oi at f;split at f
 ·rename_i k k' k'' n h1 h2
  exact .of_pure f fun w=>by simp only[convert,aH,aq h1,aq h2,ar];rfl
 ·rename_i s h1 h2
  exact .of_pure f fun w=>by simp only[convert,aH,aq h1,aq h2,ar];rfl
 ·rename_i e a n c h1 h2
  cases hu:Kh P e with
  |false=>rw[hu]at f;exact f.elim
  |true=>
   rw[hu]at f;obtain⟨s,z,t⟩:=f;refine⟨_,_,t,z,fun w o=>?_⟩
   rw[run_convert_bytes_string w g j e a n c h1 (C2 hu) h2];obtain⟨q,o⟩:=o;rcases o with p|⟨b,rfl,u⟩
   ·have m:s=ByteArray.empty:=by
     have:s.data.toList= []:=by simpa[cj]using p
     cases s with
     |mk d=>simp at this;subst this;rfl
    cases a with
    |none=>rw[m];rfl
    |some b=>
     have y:n=0:=by rw[←q,p];rfl
     subst y;have:=HA (P:=P) (w:=w) (a:=b) (vs:= []) fun i v f=>by simp at f
     rw[run_bytesToString w b 0 c [] (by simpa using this),m];rfl
   ·have:=HA (P:=P) u
    rw[q]at this;rw[run_bytesToString w b n c (s.data.toList.map fun b=>((b.toNat:Nat):Int)) (by rw[this,kZ];rfl),Dz]
    cases s;simp[ByteArray.empty,ByteArray.emptyWithCapacity];try rfl
 ·exact f.elim
theorem JW{u:TypeId}{cs:Array Value}{off:Nat}{K:RK}{h:ad}(c:∃d,P.underlying u=some d)(hi:∃i,P.info? u=some i)
  (a:bif tR P u then K (.agg ((cs.toList.drop off).take (bF P u)).toArray) none else(match cs.toList[off]? with|some v=>K v none|none=>False)):Yv P (part u cs off) K h:=by
 obtain⟨i,hi⟩:=hi;cases ha:tR P u with
 |true=>
  rw[ha]at a;refine .of_pure a fun w=>?_
  have e:(sizeOf u).run P w=.ok (bF P u) w:=by simp[sizeOf,cx hi,bF,hi]
  simp only[part,aH,tQ hi c,ar,ha,if_true,e,bd];congr 2
  apply cr;simp[fy]
 |false=>
  rw[ha]at a;simp only[cond_false]at a;cases hc:cs.toList[off]? with
  |none=>rw[hc]at a;exact a.elim
  |some v=>
   rw[hc]at a;refine .of_pure a fun w=>?_
   have b:cs[off]? =some v:=by simpa using hc
   simp only[part,aH,tQ hi c,ar,ha,cM,if_false,b,bd]
def uu(P:Program)(v:Option Value)(d y n:Nat):Prop:=
 match v with
 |some x=>∀c w,(Instr.sliceBound x y c).run P w=.ok n w
 |none=>n=d
theorem kQ{v:Option Value}{d y:Nat}{K:Nat→Prop}(a:Pm v d y K):∃n,K n∧uu P v d y n:=by
 unfold Pm at a;split at a
 ·exact⟨d,a,rfl⟩
 ·rename_i k i
  obtain⟨⟨f,e⟩,b⟩:=a;refine⟨i.toNat,b,fun c w=>?_⟩
  simp[Instr.sliceBound,asIntOf,f,e]
 ·exact a.elim
theorem nK{c:Bool}{len cap n l:Nat}{lo hi:Option Value}(b:uu P hi len cap n)(a:uu P lo 0 n l)(w:World):
  (fc c len cap lo hi none).run P w=.ok (l,n,cap) w:=by
 cases hi with
 |none=>
  cases lo with
  |none=>simp only[uu]at b a;subst b;subst a;simp[fc]
  |some lo=>simp only[uu]at b a;subst b;simp[fc,a]
 |some hi=>
  cases lo with
  |none=>simp only[uu]at b a;subst a;simp[fc,b]
  |some lo=>simp only[uu]at b a;simp[fc,b,a]
theorem Aa{c:Bool}{len cap n l m:Nat}{lo:Option Value}{hi d:Value}(hm:uu P (some d) 0 cap m)(b:uu P (some hi) 0 m n)(a:uu P lo 0 n l)(w:World):
  (fc c len cap lo (some hi) (some d)).run P w=.ok (l,n,m) w:=by
 cases lo with
 |none=>simp only[uu]at hm b a;subst a;simp[fc,hm,b]
 |some lo=>simp only[uu]at hm b a;simp[fc,hm,b,a]
theorem w8(a:Option Addr)(l m size:Nat):(if m=l then a else a.map (·.add (l*size)))=aM a l m size:=by
 unfold aM;split
 ·rfl
 ·congr 1;funext x;rw[si]
theorem nN{t:TypeId}{K:Prop}(h:Ow P t K):K∧∀w,(sizeOf t).run P w=.ok (bF P t) w:=by
 unfold Ow at h;cases hi:P.info? t with
 |none=>rw[hi]at h;exact h.elim
 |some i=>rw[hi]at h;exact⟨h,fun w=>by simp[sizeOf,cx hi,bF,hi]⟩
theorem F9{t:TypeId}{x:Value}{f:Nat}{K:RK}{h:ad}(a:JQ P t x f K):Yv P (Instr.field t x f) K h:=by
 unfold JQ at a;split at a
 ·rename_i u off cs hf
  obtain⟨k,g,j,i,rfl,rfl⟩:=uV hf;cases hb:((P.underlying g.type).isSome&&(P.info? g.type).isSome)with
  |false=>rw[hb]at a;exact a.elim
  |true=>
   rw[hb]at a;simp only[aQ,fU]at hb;obtain⟨v,S,b,c,e⟩:=JW (cs:=cs) (off:=g.offset) (h:=h) hb.1 hb.2 a;refine⟨v,S,b,c,fun w d=>?_⟩
   have:=e w d;simp only[Instr.field,aH,aq j,ar,i,asAgg,bd,this]
 ·exact a.elim
theorem Ah{t:TypeId}{x i:Value}{K:RK}{h:ad}(c:xh P t x i K):Yv P (Instr.indexAt t x i) K h:=by
 unfold xh at c;split at c
 ·rename_i n e a k i hu
  obtain⟨⟨⟨g,j⟩,d⟩,f⟩:=nN c;refine .of_pure d fun w=>?_
  simp[Instr.indexAt,asIntOf,aq hu,kr,g,j,f,si]
 ·rename_i e b len cap k i hu
  obtain⟨⟨⟨g,j⟩,a,rfl,d⟩,f⟩:=nN c;refine .of_pure d fun w=>?_
  simp[Instr.indexAt,asIntOf,aq hu,g,j,f,si]
 ·exact c.elim
theorem F6{ats:Array TypeId}{ty:TypeId}{v:Value}{K:RK}(h:JN v K):∃u,K u none∧∀w,(Builtin.unsafeSliceData_ ats ty #[v]).run P w=.ok u w:=by
 unfold JN at h;split at h
 ·rename_i a n c
  obtain⟨d,b⟩:=h;cases a with
  |none=>exact⟨_,b,fun w=>Lib.run_unsafeSliceData_nil ..⟩
  |some a=>exact⟨_,b,fun w=>Lib.run_unsafeSliceData_row _ _ _ _ _ _ (d.resolve_left nofun)⟩
 ·exact h.elim
theorem F8{t:TypeId}{x i:Value}{K:RK}{h:ad}(a:JP P t x i K):Yv P (Instr.index t x i) K h:=by
 unfold JP at a;split at a
 ·rename_i s k i hu
  obtain⟨b,e,c,d⟩:=a;refine .of_pure d fun w=>?_
  simp[Instr.index,asIntOf,aq hu,e,c]
 ·exact a.elim
theorem F5{t:TypeId}{x:Value}{lo hi f:Option Value}{K:RK}{h:ad}(b:JM P t x lo hi f K):Yv P (oB t x lo hi f) K h:=by
 unfold JM at b;split at b
 ·rename_i s hu
  cases f with
  |some _=>exact b.elim
  |none=>
   obtain⟨n,b,c⟩:=kQ (P:=P) b;obtain⟨l,b,d⟩:=kQ (P:=P) b;refine .of_pure b fun w=>?_
   simp[oB,Instr.slice,aq hu,nK c d]
 ·rename_i e a len cap hu
  obtain⟨b,g⟩:=nN b;cases f with
  |none=>
   obtain⟨n,b,c⟩:=kQ (P:=P) b;obtain⟨l,b,d⟩:=kQ (P:=P) b;refine .of_pure b fun w=>?_
   simp[oB,Instr.slice,aq hu,nK c d,g,w8]
  |some m=>
   cases hi with
   |none=>exact b.elim
   |some hi=>
    obtain⟨j,b,hm⟩:=kQ (P:=P) b;obtain⟨n,b,c⟩:=kQ (P:=P) b;obtain⟨l,b,d⟩:=kQ (P:=P) b;refine .of_pure b fun w=>?_
    simp[oB,Instr.slice,aq hu,Aa hm c d,g,w8]
 ·rename_i n e a hu
  obtain⟨b,g⟩:=nN b;cases f with
  |some _=>exact b.elim
  |none=>
   obtain⟨m,b,c⟩:=kQ (P:=P) b;obtain⟨l,b,d⟩:=kQ (P:=P) b;refine .of_pure b fun w=>?_
   have i:(some (if n=l then a else a.add (l*bF P e)))=aM (some a) l n (bF P e):=by
    rw[←w8];split<;>rfl
   simp[oB,aq hu,kr,nK c d,g,i]
 ·exact b.elim
def m6(d:TypeDesc)(c:CK):Prop:=(∃i,d=.int i∧c=.int i)∨(d=.string∧c=.str)∨(d=.bool∧c=.bool)
theorem uP{t:TypeId}{c:CK}{e:TypeId}(h:H7 P t=some (c,e)):∃k d,P.underlying t=some (.map k e)∧P.underlying k=some d∧m6 d c:=by
 unfold H7 at h;split at h
 ·rename_i k e' hu
  split at h
  ·rename_i i hk
   simp only[aZ.injEq,tT.injEq]at h;obtain⟨rfl,rfl⟩:=h;exact⟨k,_,hu,hk,.inl ⟨i,rfl,rfl⟩⟩
  ·rename_i hk
   simp only[aZ.injEq,tT.injEq]at h;obtain⟨rfl,rfl⟩:=h;exact⟨k,_,hu,hk,.inr (.inl ⟨rfl,rfl⟩)⟩
  ·rename_i hk
   simp only[aZ.injEq,tT.injEq]at h;obtain⟨rfl,rfl⟩:=h;exact⟨k,_,hu,hk,.inr (.inr ⟨rfl,rfl⟩)⟩
  ·cases h
 ·cases h
theorem A5{d:TypeDesc}{c:CK}(hd:m6 d c)(x y:c.den):sD d (c.enc x) (c.enc y)=some (eT (c.enc x) (c.enc y)):=by
 rcases hd with⟨i,rfl,rfl⟩|⟨rfl,rfl⟩|⟨rfl,rfl⟩
 ·simp[sD,CK.enc,eT]
 ·simp[sD,CK.enc,eT]
 ·simp[sD,CK.enc,eT]
theorem Bh{d:TypeDesc}{c:CK}(hd:m6 d c)(x:c.den):∀(es:List MapEntry) (i:Nat),keysOf c es→
  ∃r,lP d (c.enc x) es i=some r∧r.map (·.2)=Dc (c.enc x) es
 | [],i,_=>⟨none,rfl,rfl⟩
 |e::es,i,h=>by
  obtain⟨y,f⟩:=h e (by simp);have b:=A5 hd x y;rw[←f]at b;simp only[lP,Dc];cases hb:eT (c.enc x) e.key with
  |true=>rw[b,hb];exact⟨some (i,e.val),rfl,rfl⟩
  |false=>rw[b,hb];exact Bh hd x es (i+1) fun g a=>h g (by simp[a])
theorem Iz{a:Bool}{k:TypeId}{d:TypeDesc}{c:CK}(hd:m6 d c)(b:P.underlying k=some d)(v:Value)(n:Nat)(w:World):(Instr.checkKey a (n+1) k v).run P w=.ok () w:=by
 unfold Instr.checkKey;simp only[aH,aq b,ar];rcases hd with⟨i,rfl,rfl⟩|⟨rfl,rfl⟩|⟨rfl,rfl⟩<;>rfl
theorem tD{k:TypeId}{d:TypeDesc}{c:CK}(hd:m6 d c)(b:P.underlying k=some d)(x:c.den){es:List MapEntry}(h:keysOf c es)(w:World):
  ∃r,(Instr.findKey k (c.enc x) es).run P w=.ok r w∧lP d (c.enc x) es 0=some r∧r.map (·.2)=Dc (c.enc x) es:=by
 obtain⟨r,a,hm⟩:=Bh hd x es 0 h;refine⟨r,?_,a,hm⟩;simp only[Instr.findKey,aH,aq b,ar,a,bd]
theorem j9{w:World}{r:Nat}{es:Array MapEntry}{a:Nat}(h:w.heap[r]? =some (.map es a)):(getObj r).run P w=.ok (.map es a) w:=by
 simp only[getObj,lW,h]
theorem lI{a:Bool}{k:TypeId}{d:TypeDesc}{c:CK}(hd:m6 d c)(b:P.underlying k=some d)(v:Value)(w:World):(Instr.checkKey a 10000 k v).run P w=.ok () w:=
 Iz hd b v 9999 w
theorem Kc{t:TypeId}{c:CK}{e k:TypeId}{d:TypeDesc}(s:P.underlying t=some (.map k e))(f:P.underlying k=some d)(hd:m6 d c){m:Option Nat}{x:c.den}{z v:Value}{b n:Bool}{w:World}
  (q:(zeroValue e).run P w=.ok z w)(hm:tS c z w.heap m (c.enc x) v b):
  (tW t (.map m) (c.enc x) n).run P w=.ok (bif n then .tuple #[v,.bool b]else v) w:=by
 cases m with
 |none=>
  obtain⟨rfl,rfl⟩:=hm;simp only[tW,aH,aq s,ar,bd,lI hd f];obtain⟨r,j,o,a⟩:=tD (P:=P) hd f x (es:= []) (fun _ h=>by cases h) w
  simp only[lP,aZ.injEq]at o;subst o;simp[j,q]
 |some r=>
  obtain⟨es,p,u,i,g⟩:=hm;simp only[tW,aH,aq s,ar,j9 u,bd,lI hd f];obtain⟨r,j,o,a⟩:=tD (P:=P) hd f x i w;simp only[j,ar];cases r with
  |none=>
   simp only[Option.map_none]at a;rw[←a]at g;obtain⟨rfl,rfl⟩:=g;simp[q]
  |some r=>
   simp only[lX]at a;rw[←a]at g;obtain⟨rfl,rfl⟩:=g;cases n<;>rfl
theorem dS{e:TypeId}{z:Value}(h:wz P e=some z)(w:World):(zeroValue e).run P w=.ok z w:=by
 unfold wz at h;cases hi:P.info? e with
 |none=>rw[hi]at h;cases h
 |some i=>rw[hi]at h;simp only at h;simp[zeroValue,cx hi,h]
theorem D8{t:TypeId}{x k:Value}{f:Bool}{K:RK}{h:ad}(a:F7 P t x k f K h):Yv P (tW t x k f) K h:=by
 unfold F7 at a;split at a
 ·rename_i c e m hc
  obtain⟨o,d,n,g,hd⟩:=uP hc;obtain⟨p,rfl,a⟩:=CK.dec_sound a;split at a
  ·rename_i ek z hek hz
   obtain⟨y,b,hm,j⟩:=a;exact⟨_,_,j,hm,fun w i=>Kc n g hd (dS hz w) i⟩
  ·exact a.elim
 ·exact a.elim
theorem A7{w:World}{b cap s q:Nat}{buf:Array Value}{a t:Bool}(h:w.heap[b]? =some (.chan cap buf a s q t)):(getObj b).run P w=.ok (.chan cap buf a s q t) w:=by
 simp only[getObj,lW,h]
theorem JO{t:TypeId}{x:Value}{ats:Array TypeId}{ty:TypeId}{K:RK}{h:ad}(a:ats[0]? =some t) (d:Ro P t x K h):Yv P (jt ats ty #[x]) K h:=by
 unfold Ro at d;split at d
 ·rename_i s hu
  exact .of_pure d fun w=>by simp[jt,a,aq hu,goInt]
 ·rename_i n e _ hu
  exact .of_pure d fun w=>by simp[jt,a,aq hu,goInt]
 ·rename_i e b n c hu
  exact .of_pure d fun w=>by simp[jt,a,aq hu,goInt]
 ·rename_i k e m hu
  obtain⟨n,hm,g⟩:=d;refine⟨_,_,g,hm,fun w f=>?_⟩
  cases m with
  |none=>
   have:n=0:=f;subst this;simp[jt,a,aq hu,goInt]
  |some r=>
   obtain⟨es,j,i,rfl⟩:=f;simp[jt,a,aq hu,goInt,j9 i]
 ·rename_i k e m hu
  obtain⟨n,hm,g⟩:=d;refine⟨_,_,g,hm,fun w f=>?_⟩
  cases m with
  |none=>
   have:n=0:=f;subst this;simp[jt,a,aq hu,goInt]
  |some r=>
   obtain⟨cap,buf,o,s,q,i,rfl⟩:=f;simp[jt,a,aq hu,goInt,A7 i]
 ·exact d.elim
theorem JR{t:TypeId}{x:Value}{ats:Array TypeId}{ty:TypeId}{K:RK}{h:ad}(a:ats[0]? =some t) (d:Rp P t x K h):Yv P (tY ats ty #[x]) K h:=by
 unfold Rp at d;split at d
 ·rename_i e b n c hu
  exact .of_pure d fun w=>by simp[tY,a,aq hu,goInt]
 ·rename_i k e m hu
  obtain⟨n,hm,g⟩:=d;refine⟨_,_,g,hm,fun w f=>?_⟩
  cases m with
  |none=>
   have:n=0:=f;subst this;simp[tY,a,aq hu,goInt]
  |some r=>
   obtain⟨cap,buf,j,s,q,i,rfl⟩:=f;simp[tY,a,aq hu,goInt,A7 i]
 ·exact d.elim
theorem yn{c:Bool}{k:IntKind}:∀{vs:List Value} {a:Int} {f:Value→Prop},Gp c k a vs f→∃v,f v∧∀w,(vs.foldlM (bif c then Builtin.max2 else Builtin.min2) (Value.int k a):Sem Value).run P w=.ok v w
 | [],a,f,h=>⟨_,h,fun w=>by simp⟩
 | .int k' b::vs,a,f,h=>by
  simp only[Gp]at h;cases hk:Gu k' k with
  |false=>rw[hk]at h;exact h.elim
  |true=>
   rw[hk]at h;have:=yx hk;subst this;obtain⟨v,d,e⟩:=yn h;refine⟨v,d,fun w=>?_⟩
   rw[←e w];cases c<;>simp[List.foldlM_cons,Builtin.max2,Builtin.min2]
theorem wE{a:Bool}{vs:List Value}{f:Value→Prop}{ats:Array TypeId}{ty:TypeId}(h:Cc a vs f):∃v,f v∧∀w,(bif a then Builtin.max_ ats ty vs.toArray else Builtin.min_ ats ty vs.toArray).run P w=.ok v w:=by
 unfold Cc at h;split at h
 ·obtain⟨v,b,c⟩:=yn (P:=P) h
  refine⟨v,b,fun w=>?_⟩
  have:=c w;cases a<;>simpa[Builtin.max_,Builtin.min_]using this
 ·exact h.elim
theorem MN{a:Addr}{e:MapEntry}{w:World}(g:a.off=0)(h:KU w.heap a.block e):(Instr.entry (.pointer (some a))).run P w=.ok (.tuple #[e.key,e.val]) w:=by
 obtain⟨m,c,d,last,f,es,hi,j,hm,k⟩:=h;obtain⟨b,off,i⟩:=a;simp only at g hi;subst g;have n:(getObj b).run P w=.ok (.mapIter (some m) c d last) w:=by simp only[getObj,lW,hi]
 simp[Instr.entry,n,j,j9 hm,k]
def EE:DV→Value→Prop
 | .t,v=>v=.bool true
 | .f,v=>v=.bool false
 | .u,v=>v=undef
 | .x,_=>True
def DecOk(d:tg)(r:cd):Prop:=∀t,pM d t=.x∨∃v,ja r t=some v∧EE (pM d t) v
theorem DecOk.at{d:tg}{r:cd}(h:DecOk d r){t:Nat}{v:Value}(c:ja r t=some v):EE (pM d t) v:=by
 rcases h t with e|⟨u,a,b⟩
 ·rw[e];trivial
 ·rw[c]at a;cases a;exact b
theorem sQ{d:tg}{r:cd}(hd:DecOk d r){o:Operand}{v:Value}(h:cJ r o=some v):EE (yI d o) v:=by
 cases o with
 |tmp t=>exact hd.at h
 |const c=>
  simp[cJ]at h;subst h;cases c with
  |bool b=>cases b<;>exact rfl
  |_=>trivial
 |global g=>trivial
 |func f=>trivial
theorem Ba{t:TypeId}(h:oH P t=true):∃d,P.underlying t=some d∧∀m,d≠ .interface m:=by
 unfold oH at h;split at h
 ·cases h
 ·rename_i d hd;exact⟨_,hd,fun m e=>by subst e;simp_all⟩
 ·cases h
theorem yr{t:TypeId}{v:Value}(h:oH P t=true)(w:World):(Instr.makeInterface t v).run P w=.ok (.iface t v) w:=by
 obtain⟨d,hd,a⟩:=Ba h;simp only[Instr.makeInterface,aH,aq hd,ar];cases d<;>first|exact absurd rfl (a _)|rfl
theorem Cw{t u:TypeId}{v:Value}(h:oH P t=true)(w:World):(Instr.typeAssert (.iface t v) u t false).run P w=.ok v w:=by
 obtain⟨d,hd,a⟩:=Ba h;simp only[Instr.typeAssert,aH,aq hd,ar];cases d<;>first|exact absurd rfl (a _)|(simp[bd])
theorem i7{t:TypeId}{z:List Value}(h:pi P t=some z):∃v,wz P t=some v∧v.cells.toList=z:=by
 unfold pi at h;cases hz:wz P t with
 |none=>rw[hz]at h;cases h
 |some v=>rw[hz]at h;simp only[aZ.injEq]at h;exact⟨v,rfl,h⟩
theorem pW{t:TypeId}{v:Value}(h:wz P t=some v):∃i,P.info? t=some i∧i.zero=some v:=by
 unfold wz at h;cases hi:P.info? t with
 |none=>rw[hi]at h;cases h
 |some i=>rw[hi]at h;exact⟨i,rfl,h⟩
theorem O8{A B:List Value}{x:Value}{m:Nat}(h:A.length=m):(A++x::B).take (m+1)=A++ [x]:=by
 subst h;rw[List.take_append,bq (by omega),show A.length+1-A.length=1 by omega];rfl
theorem Pa{A B:List Value}{x:Value}{m n:Nat}(h:A.length=m):(A++x::B).drop (m+1+n)=B.drop n:=by
 subst h;rw[List.drop_append,List.drop_eq_nil_of_le (by omega),show A.length+1+n-A.length=n+1 by omega];rfl
theorem Ih(off:Nat):∀(xs:List Value) (k:Nat) (arr:Array Value),off+k+xs.length≤arr.size→
  (xs.zipIdx k).foldl (fun cs (c,j)=>cs.setIfInBounds (off+j) c) arr=(HN arr.toList (off+k) xs).toArray
 | [],k,arr,_=>by simp[HN]
 |x::xs,k,arr,h=>by
  simp only[aV]at h;simp only[List.zipIdx_cons,List.foldl_cons];rw[Ih off xs (k+1) _ (by simp;omega)];have hm:off+k<arr.toList.length:=by simp;omega
  have b:arr.toList.set (off+k) x=arr.toList.take (off+k)++x::arr.toList.drop (off+k+1):=by
   rw[List.set_eq_take_append_cons_drop,if_pos hm]
  have a:(arr.toList.take (off+k)).length=off+k:=by simp;omega
  congr 1
  unfold HN;rw[Array.toList_setIfInBounds,b,←Nat.add_assoc,O8 a,Pa a];simp only[List.append_assoc,ld,List.nil_append,aV,List.drop_drop];rw[show off+k+1+xs.length=off+k+(xs.length+1) by omega]
theorem rc{a:Nat→Option (Nat×Nat)}:∀(parts:List (Nat×Value)) (cs cs':List Value),Bi a cs parts=some cs'→Instr.fill a cs.toArray parts=some cs'.toArray
 | [],cs,cs',h=>by simp only[Bi,aZ.injEq]at h;subst h;rfl
 |(i,v)::rest,cs,cs',h=>by
  simp only[Bi]at h;cases hp:a i with
  |none=>rw[hp]at h;cases h
  |some os=>
   obtain⟨off,size⟩:=os;rw[hp]at h;simp only at h;cases hb:(ax v.cells.toList.length size&&vZ (off+v.cells.toList.length) cs.length)with
   |false=>rw[hb]at h;cases h
   |true=>
    rw[hb]at h;simp only[aQ]at hb;have e:=aL hb.1;have g:=gU hb.2;have b:=rc rest _ _ h;have c:v.cells.size=size:=by simpa using e
    have f:off+v.cells.size≤cs.length:=by simpa using g
    have d:Array.foldl (fun cs x=>cs.setIfInBounds (off+x.2) x.1) cs.toArray v.cells.zipIdx=(HN cs off v.cells.toList).toArray:=by
     have:=Ih off v.cells.toList 0 cs.toArray (by simpa using f);simp only[iv]at this;rw[←this,←Array.foldl_toList];congr 1
     simp[Array.toList_zipIdx]
    simp only[Instr.fill,hp];rw[if_neg (by simp[c];omega)];simp only[d];exact b
theorem mN{N:Nat}{r:cd}{a:Act}(h:Agree N r a):∀{ps:List (Nat×Operand)} {vs:List (Nat×Value)},oG r ps=some vs→ps.map (fun p=>(p.1,a.eval p.2))=vs
 | [],vs,hv=>by simp[oG]at hv;subst hv;rfl
 |(i,o)::ps,vs,hv=>by
  simp only[oG]at hv;cases ho:cJ r o with
  |none=>simp[ho]at hv
  |some v=>cases hos:oG r ps with
   |none=>simp[ho,hos]at hv
   |some us=>simp[ho,hos]at hv;subst hv;simp[jb h ho,mN h hos]
theorem oK{t:TypeId}(h:vS P t=true)(w:World):(sizeOf t).run P w=.ok (bF P t) w:=by
 unfold vS at h;cases hi:P.info? t with
 |none=>rw[hi]at h;cases h
 |some i=>simp[sizeOf,cx hi,bF,hi]
theorem CR(w:World):∀l:List Field,yN P l=true→(l.mapM fun f:Field=>((do pure (f.offset,←sizeOf f.type)):Sem (Nat×Nat))).run P w=.ok (l.map fun f:Field=>(f.offset,bF P f.type)) w
 | [],_=>rfl
 |f::l,h=>by
  simp only[yN]at h;cases hf:vS P f.type with
  |false=>rw[hf]at h;cases h
  |true=>
   rw[hf]at h;rw[List.mapM_cons];simp only[aH,oK hf,ar,bd,CR w l h,cn]
theorem yM{t:TypeId}{ps:Array (Nat×Value)}{cs:List Value}(a:GL P t ps.toList=some cs)(w:World):
  (Instr.build t ps).run P w=.ok (.agg cs.toArray) w:=by
 unfold GL at a;split at a
 ·rename_i fs z hu c
  obtain⟨v,c,k⟩:=i7 c;cases ha:yN P fs.toList with
  |false=>rw[ha]at a;cases a
  |true=>
   rw[ha]at a;have j:(fs.mapM fun f:Field=>((do pure (f.offset,←sizeOf f.type)):Sem (Nat×Nat))).run P w=.ok (fs.map fun f:Field=>(f.offset,bF P f.type)) w:=by
    rw[Array.mapM_eq_mapM_toList];simp only[Sem.run_map,CR w fs.toList ha,ar];congr 1
    apply cr;simp
   have g:=rc _ _ _ a;have b:(fun i:Nat=>(fs.map fun f:Field=>(f.offset,bF P f.type))[i]?)=JV P fs.toList:=by
    funext i;unfold JV;rw[Array.getElem?_map,aS];cases fs[i]?<;>rfl
   have d:v.cells=z.toArray:=by rw[←k]
   rw[cond_true]at a;rw[←b]at g;simp only[Instr.build,aH,dS c,ar,aq hu,j,d,g,bd]
 ·rename_i n e z hu c
  obtain⟨v,c,k⟩:=i7 c;cases ha:vS P e with
  |false=>rw[ha]at a;cases a
  |true=>
   rw[ha]at a;have g:=rc _ _ _ a;have d:v.cells=z.toArray:=by rw[←k]
   simp only[Instr.build,aH,dS c,ar,aq hu,oK ha,d,g,bd]
 ·cases a
theorem Ag{ek:Option (Kind×Kind)}{o:Oper}{r:cd}{K:RK}{h:ad}{N:Nat}{a:Act}(R:Agree N r a)(g:zR P ek o.op r K h)(d:tg)(hd:DecOk d r):
  ∃v S,K v S∧PQ S h∧EE (Hd d o.op) v∧∀w:World,PQ S w.heap→(execOp a.eval o).run P w=.ok (.value v) w:=by
 have j:∀{x:Operand} {v:Value},cJ r x=some v→a.eval x=v:=fun h=>jb R h
 have B:∀{s:Sem Value},Yv P s K h→Hd d o.op=.x→(∀w,(execOp a.eval o).run P w=(do pure (Next.value (←s)):Sem Next).run P w)→
   ∃v S,K v S∧PQ S h∧EE (Hd d o.op) v∧∀w:World,PQ S w.heap→(execOp a.eval o).run P w=.ok (.value v) w:=by
  rintro s ⟨v,S,q,C,A⟩ hx H;exact⟨v,S,q,C,by rw[hx];trivial,fun w D=>by rw[H w];exact gB (A w D)⟩
 obtain⟨U,Q,z,pos,G,I⟩:=o;simp only at g B⊢;cases Q with
 |move x=>
  simp only[zR]at g;split at g
  ·rename_i v hv
   exact⟨v,none,g,trivial,sQ hd hv,fun w _=>by simp[execOp,j hv]⟩
  ·exact g.elim
 |assign x=>
  simp only[zR]at g;split at g
  ·rename_i v hv
   exact⟨v,none,g,trivial,sQ hd hv,fun w _=>by simp[execOp,j hv]⟩
  ·exact g.elim
 |pick c x y=>
  simp only[zR]at g;split at g
  ·rename_i vc va vb hc hx V
   unfold QU at g;split at g
   ·rename_i cb
    have O:=sQ hd hc;have Y:=sQ hd hx;have hyo:=sQ hd V;have H:∀w,(execOp a.eval ⟨U,.pick c x y,z,pos,G,I⟩).run P w=.ok (.value (if cb then va else vb)) w:=fun w=>by
     simp[execOp,j hc,j hx,j V,asBool]
    have L:EE (Hd d (.pick c x y)) (if cb then va else vb):=by
     simp only[Hd];cases hcd:yI d c with
     |t=>
      rw[hcd]at O;have:cb=true:=by simpa[EE]using O
      subst this;exact Y
     |f=>
      rw[hcd]at O;have:cb=false:=by simpa[EE]using O
      subst this;exact hyo
     |u=>trivial
     |x=>trivial
    split at g
    ·rename_i bx by'
     have e1:(if cb=true then Value.bool bx else Value.bool by')=.bool (bif cb then bx else by'):=by cases cb<;>rfl
     rw[e1]at L;exact⟨_,none,g,trivial,L,fun w _=>by rw[H w,e1]⟩
    ·cases cb
     ·exact⟨_,none,g,trivial,L,fun w _=>H w⟩
     ·exact⟨_,none,g,trivial,L,fun w _=>H w⟩
   ·exact g.elim
  ·exact g.elim
 |load t x=>
  simp only[zR]at g;split at g
  ·rename_i v hv
   obtain⟨u,S,q,C,A⟩:=A9 g;exact B ⟨u,some S,q,C,A⟩ rfl fun w=>by simp only[execOp,j hv]
  ·exact g.elim
 |nilCheck x=>
  simp only[zR]at g;split at g
  ·rename_i p hv
   obtain⟨b,rfl,q⟩:=g;exact⟨_,none,q,trivial,trivial,fun w _=>by simp[execOp,j hv]⟩
  ·exact g.elim
 |binOp Q t x y yt=>
  simp only[zR]at g;split at g
  ·rename_i v u hn hv hu
   have go:(∀c d,v=.agg c→u=.agg d→False)∧Yv P (binOp Q t v u) K h:=by
    split at g
    ·exact CT (neg:=false) g
    ·exact CT (neg:=true) g
    ·exact⟨(xi g).1,(xi g).2.2⟩
   obtain⟨Z,T,S,q,C,A⟩:=go;obtain⟨yc,rfl⟩:=Gq hn;refine⟨T,S,q,C,trivial,fun w D=>?_⟩
   simp only[execOp,j hv,j hu];simp[Im Q t x yc v u Z w,A w D]
  ·rename_i v u hn hv hu
   obtain⟨T,S,q,C,A⟩:=JS (x:=x) (y:=y) g;refine⟨T,S,q,C,trivial,fun w D=>?_⟩
   simp only[execOp,j hv,j hu];exact gB (A w D)
  ·rename_i v u hna hn hv hu
   obtain⟨Z,h2,T,S,q,C,A⟩:=xi g;refine⟨T,S,q,C,trivial,fun w D=>?_⟩
   simp only[execOp,j hv,j hu];simp[KB Q t x y v u Z h2 w,A w D]
  ·exact g.elim
 |unOp Q t x=>
  simp only[zR]at g;split at g
  ·rename_i v hv
   obtain⟨u,S,q,C,A⟩:=Mh (P:=P) (h:=h) g;refine⟨u,S,q,C,?_,fun w D=>by simp only[execOp,j hv];exact gB (A w D)⟩
   have J:=sQ hd hv;cases Q<;>try trivial
   simp only[Hd];have F:=A {(default:World)with heap:=h} C;cases hx:yI d x with
   |t=>
    rw[hx]at J;have:v=.bool true:=J;subst this;simp[Op.unary]at F;exact F.symm
   |f=>
    rw[hx]at J;have:v=.bool false:=J;subst this;simp[Op.unary]at F;exact F.symm
   |u=>trivial
   |x=>trivial
  ·exact g.elim
 |convert s t x=>
  simp only[zR]at g;split at g
  ·rename_i v hv
   exact B (HJ g) rfl fun w=>by simp only[execOp,j hv]
  ·exact g.elim
 |extract x i=>
  simp only[zR]at g;split at g
  ·rename_i vs hv
   split at g
   ·rename_i u hu
    have X:vs[i]? =some u:=by simpa using hu
    exact⟨u,none,g,trivial,trivial,fun w _=>by simp[execOp,j hv,Instr.extract,X]⟩
   ·exact g.elim
  ·exact g.elim
 |fieldAddr t x f=>
  simp only[zR]at g;split at g
  ·rename_i b u off hv hf
   exact B (BO hf g) rfl fun w=>by simp only[execOp,j hv]
  ·exact g.elim
 |field t x f=>
  simp only[zR]at g;split at g
  ·rename_i v hv
   exact B (F9 g) rfl fun w=>by simp only[execOp,j hv]
  ·exact g.elim
 |indexAddr t x i=>
  simp only[zR]at g;split at g
  ·rename_i v u hv hu
   exact B (Ah g) rfl fun w=>by simp only[execOp,j hv,j hu]
  ·exact g.elim
 |index t x i=>
  simp only[zR]at g;split at g
  ·rename_i v u hv hu
   exact B (F8 g) rfl fun w=>by simp only[execOp,j hv,j hu]
  ·exact g.elim
 |slice t x lo hi mx=>
  simp only[zR]at g;split at g
  ·rename_i v l h' m hv hl hh hm
   have W:∀{x:Option Operand} {v:Option Value},E3 r x=some v→x.map a.eval=v:=by
    intro x v hx;cases x with
    |none=>simp[E3]at hx;subst hx;rfl
    |some x=>
     simp only[E3]at hx;cases H:cJ r x with
     |none=>simp[H]at hx
     |some u=>simp[H]at hx;subst hx;simp[j H]
   exact B (F5 g) rfl fun w=>by simp only[execOp,j hv,W hl,W hh,W hm]
  ·exact g.elim
 |lookup t x k ok=>
  simp only[zR]at g;split at g
  ·rename_i v u hv hu
   exact B (D8 g) rfl fun w=>by simp only[execOp,j hv,j hu]
  ·exact g.elim
 |makeInterface t x=>
  simp only[zR]at g;split at g
  ·rename_i v hv
   cases hb:oH P t with
   |false=>rw[hb]at g;exact g.elim
   |true=>
    rw[hb,cond_true]at g;exact⟨_,none,g,trivial,trivial,fun w _=>by simp only[execOp,j hv];exact gB (yr hb w)⟩
  ·exact g.elim
 |typeAssert x u t ok=>
  simp only[zR]at g;split at g
  ·rename_i v hv
   cases ok with
   |true=>exact g.elim
   |false=>
    rw[cond_false]at g;unfold Lr at g;cases hb:oH P t with
    |false=>rw[hb]at g;exact g.elim
    |true=>
     rw[hb,cond_true]at g;split at g
     ·obtain⟨y,rfl,q⟩:=g
      exact⟨_,none,q,trivial,trivial,fun w _=>by simp only[execOp,j hv];exact gB (Cw hb w)⟩
     ·exact g.elim
  ·exact g.elim
 |makeFunc fn first cap=>
  simp only[zR]at g;split at g
  ·rename_i vs us hv hu
   have e1:=kF R hv;have e2:=kF R hu;refine⟨_,none,g,trivial,trivial,fun w _=>?_⟩
   have f1:first.map a.eval=vs.toArray:=by rw[←e1];apply cr;simp
   have f2:cap.map a.eval=us.toArray:=by rw[←e2];apply cr;simp
   simp[execOp,Instr.makeFunc,f1,f2]
  ·exact g.elim
 |entry it=>
  simp only[zR]at g;split at g
  ·rename_i b kk vk hv
   obtain⟨h0,e,x,y,hi,q,V,hK⟩:=g;refine⟨_,_,hK,hi,trivial,fun w D=>?_⟩
   simp only[execOp,j hv];refine gB ?_;rw[MN h0 D,q,V]
  ·exact g.elim
 |call c=>
  simp only[zR]at g;have E:∀{b:Builtin} {vs:List Value},c.callee=.builtin b→l7 r c.args.toList=some vs→∃cs:Array Bool,∀w,(execOp a.eval ⟨U,.call c,z,pos,G,I⟩).run P w=
    (builtin b c.argTypes z cs vs.toArray).run P w:=by
   intro b vs hc n;have e1:=kF R n;have f1:c.args.map a.eval=vs.toArray:=by rw[←e1];apply cr;simp
   refine⟨c.args.map fun| .const _=>true|_=>false,fun w=>?_⟩
   simp[execOp,resolve,hc,f1,invoke];rfl
  split at g
  ·rename_i v t hc n hat
   obtain⟨cs,E⟩:=E hc n;obtain⟨u,S,q,C,A⟩:=JO (ats:=c.argTypes) (ty:=z) (by rw[←aS,hat];rfl) g;exact⟨u,S,q,C,trivial,fun w D=>by rw[E w];simp only[builtin];exact gB (A w D)⟩
  ·rename_i v t hc n hat
   obtain⟨cs,E⟩:=E hc n;obtain⟨u,S,q,C,A⟩:=JR (h:=h) (ats:=c.argTypes) (ty:=z) (by rw[←aS,hat];rfl) g;exact⟨u,S,q,C,trivial,fun w D=>by rw[E w];simp only[builtin];exact gB (A w D)⟩
  ·rename_i vs hc n
   obtain⟨cs,E⟩:=E hc n;obtain⟨u,q,A⟩:=wE (P:=P) (ats:=c.argTypes) (ty:=z) g;exact⟨u,none,q,trivial,trivial,fun w _=>by rw[E w];simp only[builtin];exact gB (A w)⟩
  ·rename_i vs hc n
   obtain⟨cs,E⟩:=E hc n;obtain⟨u,q,A⟩:=wE (P:=P) (ats:=c.argTypes) (ty:=z) g;exact⟨u,none,q,trivial,trivial,fun w _=>by rw[E w];simp only[builtin];exact gB (A w)⟩
  ·rename_i v hc n
   obtain⟨cs,E⟩:=E hc n;obtain⟨u,q,A⟩:=F6 (P:=P) (ats:=c.argTypes) (ty:=z) g;exact⟨u,none,q,trivial,trivial,fun w _=>by rw[E w];simp only[builtin];exact gB (A w)⟩
  ·exact g.elim
 |build t ps=>
  simp only[zR]at g;split at g
  ·rename_i vs n
   split at g
   ·rename_i cs hcs
    refine⟨_,none,g,trivial,trivial,fun w _=>?_⟩
    have hp:(ps.map fun x=>(x.1,a.eval x.2))=vs.toArray:=by
     rw[←mN R n];apply cr;simp
    have H:=yM (ps:=vs.toArray) (by simpa using hcs) w;simp only[execOp];rw[show(ps.map fun(i,x)=>(i,a.eval x))=vs.toArray from hp]
    exact gB H
   ·exact g.elim
  ·exact g.elim
 |_=>simp only[zR]at g
end Go.Lift
namespace Go.Lift
open Go
variable {P:Program}
def II(P:Program)(s:Sem Next)(K:WK)(w:World):Prop:=
 (∃v w',s.run P w=.ok (.value v) w'∧Tame w w'∧K v w'.heap)∨
 (∃w',s.run P w=.ok .skip w'∧Tame w w'∧K undef w'.heap)∨
 (∃f args,s.run P w=.ok (.enter f args) w∧Calls P f args w fun e w'=>Tame w w'∧∃v,e=.returned v∧K v w'.heap)∨
 (∃l fn tmps assign body,s.run P w=.ok (.round l fn tmps assign body) w∧
  ∀(c:Frame) (cs:List Frame),∃b w',Tame w w'∧K (.bool b) w'.heap∧Steps P (lone (Frame.round l fn tmps assign body .normal) (c::cs) w) (lone (c.finish (.bool b)) cs w'))
def Wv(P:Program)(s:Sem Value)(K:WK)(w:World):Prop:=∃v w',s.run P w=.ok v w'∧Tame w w'∧K v w'.heap
theorem Wv.out{s:Sem Value}{K:WK}{w:World}(h:Wv P s K w):II P (do pure (Next.value (←s))) K w:=by
 obtain⟨v,w',c,a,b⟩:=h;exact .inl ⟨v,w',gB c,a,b⟩
def Wu(P:Program)(s:Sem Unit)(K:WK)(w:World):Prop:=∃w',s.run P w=.ok () w'∧Tame w w'∧K undef w'.heap
theorem Wu.out{s:Sem Unit}{K:WK}{w:World}(h:Wu P s K w):II P (do s;pure Next.skip) K w:=by
 obtain⟨w',c,a,b⟩:=h;exact .inr (.inl ⟨w',Oe c,a,b⟩)
def hJ(w:World)(h:ad):World:={w with heap:=h}
theorem dd(w:World)(h:ad):Tame w (hJ w h):=⟨rfl,rfl,rfl⟩
theorem jn(e:TypeId)(cs:Array Value)(w:World):(newRow e cs).run P w=.ok (aR w.heap) (hJ w (hnew w.heap cs.toList e)):=by
 simp[newRow,newObj,lW,aR,hJ,hnew,bind,Sem.bind,pure]
theorem xf(o:Obj)(w:World):(newObj o).run P w=.ok w.heap.size (hJ w (w.heap.push o)):=rfl
theorem Em{h:ad}{a b:Addr}(v:Value)(c:a≠b):aE (hset h a v) b=aE h b:=
 World.cell?_setCell_other {(default:World)with heap:=h} a b v c
theorem BM{h:ad}{a:Addr}{u:Value}(v:Value)(hc:aE h a=some u):aE (hset h a v) a=some v:=
 World.cell?_setCell_same {(default:World)with heap:=h} a v hc
theorem Gv{h:ad}{a b:Addr}(v:Value):Cj (hset h a v) b=Cj h b:=
 World.frozen?_setCell {(default:World)with heap:=h} a b v
theorem Wr.hset{h:ad}{a b:Addr}(v:Value)(f:Wr h b):Wr (hset h a v) b:=by
 obtain⟨⟨u,c⟩,d⟩:=f;refine⟨?_,by rw[Gv];exact d⟩
 by_cases e:a=b
 ·subst e;exact⟨v,BM v c⟩
 ·exact⟨u,by rw[Em v e];exact c⟩
theorem JD{w:World}{a:Addr}{v:Value}(g:∀cs,v≠ .agg cs)(d:∀cs,v≠ .tuple cs)(e:Wr w.heap a):(store a v).run P w=.ok () (hJ w (hset w.heap a v)):=by
 obtain⟨⟨u,i⟩,f⟩:=e;have c:w.cell? a=some u:=i;have b:w.frozen? a=false:=f;cases v<;>first|exact absurd rfl (g _)|exact absurd rfl (d _)|(simp only[store,lW,c,b];rfl)
theorem Gk{v:Value}{vs:List Value}(h:bM (v::vs)=true):(∀cs,v≠ .agg cs)∧(∀cs,v≠ .tuple cs)∧bM vs=true:=by
 simp only[bM,aQ]at h;refine⟨fun cs e=>?_,fun cs e=>?_,h.2⟩<;>(subst e;exact absurd h.1 (by simp))
theorem qh{a:Addr}:∀(vs:List Value) (i:Nat) (w:World),bM vs=true→(∀j,j<vs.length→Wr w.heap (adr a (i+j)))→
  (storeCells a vs i).run P w=.ok () (hJ w (ia w.heap a i vs))
 | [],i,w,_,_=>rfl
 |v::vs,i,w,b,hw=>by
  obtain⟨d,f,b⟩:=Gk b;have c:=hw 0 (by simp);simp only[iv]at c;have e:a.add i=adr a i:=(si a i).symm;simp only[storeCells,e,aH,JD d f c,ar];rw[qh vs (i+1) (hJ w (hset w.heap (adr a i) v)) b fun j g=>?_]
  ·rfl
  ·have:=hw (j+1) (by simp only[aV];omega)
   rw[show i+1+j=i+(j+1) by omega]
   exact this.hset v
theorem Fh{a:Addr}(m:Nat):∀(vs:List Value) (i:Nat) (h:ad),ia h (adr a m) i vs=ia h a (m+i) vs
 | [],_,_=>rfl
 |v::vs,i,h=>by
  simp only[ia];rw[Fh m vs (i+1),Cl];rfl
theorem FK{t:TypeId}{a v:Value}{K:WK}{w:World}(c:Jk P t a v K w.heap):Wu P (Instr.storeAt t a v) K w:=by
 unfold Jk at c;split at c
 ·rename_i a
  cases hb:(ax v.cells.toList.length (bF P t)&&bM v.cells.toList)with
  |false=>rw[hb]at c;exact c.elim
  |true=>
   rw[hb]at c;simp only[aQ]at hb;have o:=aL hb.1;obtain⟨c,n⟩:=nN c;have k:v.cells.size=bF P t:=by simpa using o
   have m:(∀j,j<v.cells.toList.length→Wr w.heap (adr a (0+j)))→(Instr.storeAt t (.pointer (some a)) v).run P w=.ok () (hJ w (ia w.heap a 0 v.cells.toList)):=by
    intro d;have:=qh (P:=P) v.cells.toList 0 w hb.2 d;simp[Instr.storeAt,kr,storeVar,n,k,this]
   split at c
   ·rename_i u hu
    obtain⟨d,g⟩:=c;refine⟨_,m (fun j f=>?_),dd _ _,?_⟩
    ·rw[hu]at f;simp only[aV,List.length_nil]at f
     obtain rfl:j=0:=by omega
     exact d
    ·rw[hu];exact g
   ·obtain⟨d,g⟩:=c
    refine⟨_,m (fun j f=>?_),dd _ _,g⟩
    rcases d with e|⟨b,i,d⟩
    ·rw[e]at f;cases f
    ·cases i;exact d j f
 ·exact c.elim
theorem iL(z:Array Value)(n:Nat):(gf z n).toList=cL n z.toList:=by
 have key:∀n,(List.range (n*z.size)).map (fun i=>z[i%z.size]!)=(bw n z.toList).flatten:=by
  intro n;induction n with
  |zero=>simp
  |succ n ih=>
   rw[Nat.succ_mul,List.range_add,List.map_append,ih,List.replicate_succ',List.flatten_append];congr 1
   simp only[kZ,List.flatten_cons,List.flatten_nil,List.append_nil];apply List.ext_getElem
   ·simp
   ·intro i a b
    simp only[List.length_map,List.length_range]at a;simp[Nat.mod_eq_of_lt a,a,Nat.add_mod]
 simpa[gf,cL]using key n
theorem cU{t e:TypeId}(h:ue P t=some e):P.underlying t=some (.slice e):=by
 unfold ue at h;split at h
 ·rename_i e' hu;simp only[aZ.injEq]at h;subst h;exact hu
 ·cases h
theorem Ld{z:Value}{n:Nat}:((Array.range (n*z.cells.size)).map (z.cells[· %z.cells.size]!))=(cL n z.cells.toList).toArray:=by
 have:=iL z.cells n;unfold gf at this;apply cr;rw[this]
theorem AB{t e:TypeId}{n:Nat}{ps:Array (Nat×Value)}{z cs:List Value}(s:ue P t=some e)(m:pi P e=some z)(u:n*bF P e≤16777216)(g:z.length=bF P e)
  (o:Bi (fun i=>some (i*bF P e,bF P e)) (cL n z) ps.toList=some cs)(w:World):
  (Instr.buildSlice t n ps).run P w=.ok (.slice (some (aR w.heap)) n n) (hJ w (hnew w.heap cs e)):=by
 obtain⟨v,k,c⟩:=i7 m;obtain⟨i,hi,p⟩:=pW k;have q:(sizeOf e).run P w=.ok (bF P e) w:=by simp[sizeOf,cx hi,bF,hi]
 have f:v.cells.size=bF P e:=by rw[←g,←c];simp
 have j:=rc _ _ _ o;have a:((Array.range (n*bF P e)).map (fun i=>(if n*bF P e=0 then #[]else v.cells)[i%(if n*bF P e=0 then #[]else v.cells).size]!))=(cL n z).toArray:=by
  by_cases b:n*bF P e=0
  ·have:(cL n z).length=0:=by simp[cL,g,b]
   rw[aY.1 this];simp[b]
  ·simp only[if_neg b]
   rw[←f,Ld,c]
 have d:¬(n*bF P e>2^24):=by omega
 simp only[Instr.buildSlice,aH,aq (cU s),ar,q,if_neg d];by_cases b:n*bF P e=0
 ·simp only[if_pos b]at a
  simp only[if_pos b,aH,bd,ar,a,j,jn]
 ·simp only[if_neg b]at a
  simp only[if_neg b,aH,bd,ar,dS k,a,j,jn]
theorem Md{h:ad}{a:Addr}{vs:List Value}(c:Row h a vs):∀j v,vs[j]? =some v→aE h (a.add j)=some v:=fun j v b=>by
 rw[←si];exact c j v b
theorem vO{size n cap len:Nat}{b:Option Addr}{vs:List Value}{w:World}(e:SRow w.heap b (n*size) vs):(dR size n (.slice b len cap)).run P w=.ok vs.toArray w:=by
 obtain⟨d,a⟩:=e;cases b with
 |none=>
  rcases a with rfl|⟨_,h,_⟩
  ·simp[dR]
  ·cases h
 |some b=>
  refine run_firstCells_some w size n b len cap vs d fun j v c=>?_
  rcases a with rfl|⟨_,h,a⟩
  ·cases c
  ·cases h;exact Md a j v c
theorem CE{a:Addr}{m:Nat}{xs:List Value}{w:World}(e:bM xs=true)(c:sq w.heap (some a) m xs):
  (storeCells (a.add m) xs).run P w=.ok () (hJ w (ia w.heap a m xs)):=by
 rcases c with rfl|⟨b,d,c⟩
 ·rfl
 ·cases d
  have:=qh (P:=P) (a:=adr a m) xs 0 w e fun j f=>by rw[Cl,aD];exact c j f
  rw[←si,this,Fh,iv]
set_option maxHeartbeats 1000000 in
theorem DD{t e u ty:TypeId}{b:Option Addr}{sl f c:Nat}{xs:List Value}{x:Value}{K:WK}{w:World}(G:ue P t=some e)(k:(∃s,P.underlying u=some (.slice s))∨P.underlying u=some .string)
  (g:∀w,(oC x).run P w=.ok c w)(hx:∀w':World,w'.heap=w.heap→(dR (bF P e) c x).run P w'=.ok xs.toArray w')
  (hi:∃i,P.info? e=some i)
  (h:Pt P e b sl f c xs K w.heap):Wv P (c8 #[t,u] ty #[.slice b sl f,x]) K w:=by
 obtain⟨i,hi⟩:=hi;have j:bF P e=i.size:=by simp[bF,hi]
 have B:pv P e=i.bytes:=by simp[pv,hi]
 by_cases hc:sl+c≤f
 ·obtain⟨I,O,D⟩:=h.1 hc
  refine⟨_,_,?_,dd w (ez w.heap b (sl*bF P e) xs),D⟩;cases b with
  |none=>
   have d:=hx w rfl;rw[j]at d;rcases k with⟨s,hd⟩|hd<;>(simp[c8,aq (cU G),aq hd,sizeOf,cx hi,g,hc,d];rfl)
  |some a=>
   have p:=CE (P:=P) O I;have d:=hx w rfl;rw[j]at p d;rcases k with⟨s,hd⟩|hd<;>(simp[c8,aq (cU G),aq hd,sizeOf,cx hi,g,hc,d,p,ez,j])
 ·obtain⟨old,z,J,N,A,y,D⟩:=h.2 (by omega)
  obtain⟨v,H,F⟩:=i7 N;obtain⟨Q,n,L⟩:=pW H;rw[hi]at n;cases n;rw[B]at A y;have m:¬i.bytes=0:=by omega
  have q:¬(281474976710656<kw (sl+c) f*i.bytes):=by omega
  have d:=hx w.drew rfl;have o:(dR (bF P e) sl (.slice b sl f)).run P w.drew=.ok old.toArray w.drew:=vO J;rw[j]at d o;have C:sl+c≤(Question.appendCap (sl+c) f e).cut (w.tape w.drawn (.appendCap (sl+c) f e)):=Nat.le_add_right _ _;refine⟨_,hJ w.drew (hnew w.heap (old++xs++cL ((Question.appendCap (sl+c) f e).cut (w.tape w.drawn (.appendCap (sl+c) f e))-(sl+c)) z) e),?_,⟨rfl,rfl,rfl⟩,D _ C⟩
  have E:(gf v.cells ((Question.appendCap (sl+c) f e).cut (w.tape w.drawn (.appendCap (sl+c) f e))-(sl+c)))=(cL ((Question.appendCap (sl+c) f e).cut (w.tape w.drawn (.appendCap (sl+c) f e))-(sl+c)) z).toArray:=by
   apply cr;rw[iL,F]
  rcases k with⟨s,hd⟩|hd<;>(simp[c8,aq (cU G),aq hd,sizeOf,cx hi,g,hc,m,q,Question.forced,d,o,dS H,jn,E,aR];rfl)
theorem C3{t:TypeId}{K:Prop}(h:Ow P t K):∃i,P.info? t=some i:=by
 unfold Ow at h;cases hi:P.info? t with
 |none=>rw[hi]at h;exact h.elim
 |some i=>exact⟨i,rfl⟩
theorem yA{t:TypeId}(h:bF P t≠0):∃i,P.info? t=some i:=by
 cases hi:P.info? t with
 |none=>exact absurd (by simp[bF,hi]) h
 |some i=>exact⟨i,rfl⟩
theorem Bl{size n:Nat}{x:ByteArray}{w:World}:(dR size n (.string x)).run P w=.ok ((cj x).take n).toArray w:=by
 simp only[dR,bd];congr 1
 apply cr;simp[cj,gw,fy,←List.map_take]
theorem wC{t u ty:TypeId}{s x:Value}{K:WK}{w:World}(c:(∃e',P.underlying u=some (.slice e'))∨P.underlying u=some .string)(h:B5 P t s x K w.heap):
  Wv P (c8 #[t,u] ty #[s,x]) K w:=by
 unfold B5 at h;split at h
 ·rename_i e b sl sc a xl xc ht
  have hi:=C3 h;obtain⟨⟨xs,d,f⟩,i⟩:=nN h;exact DD ht c (fun w=>rfl) (fun w' g=>vO (by rw[g];exact d)) hi f
 ·rename_i e b sl sc x ht
  cases hb:ax (bF P e) 1 with
  |false=>rw[hb]at h;exact h.elim
  |true=>
   rw[hb]at h;have k:=aL hb;have j:(cj x).length=x.size:=by simp[cj]
   refine DD ht c (fun w=>rfl) (fun w' _=>?_) (yA (by omega)) h
   rw[Bl,bq (by omega)]
 ·exact h.elim
theorem zS{n:Int}(b:0≤n)(a:n≤9223372036854775807):IntKind.i64.wrap n=n:=IntWalk.i64_in n ⟨by omega,a⟩
theorem KQ{t e u ty:TypeId}{b:Option Addr}{sl c:Nat}{k0 k:IntKind}{l:Int}{z:List Value}{K:WK}{w:World}(y:ue P t=some e)(A:P.underlying u=some (.int k0))
  (U:pi P e=some z)(O:z.length=bF P e)(W:0≤l)(S:l*pv P e≤2^48)(Z:l≤9223372036854775807)(h3:((sl+l.toNat:Nat):Int)≤9223372036854775807)
  (h:Pt P e b sl c l.toNat (cL l.toNat z) K w.heap):Wv P (c8 #[t,u] ty #[.slice b sl c,.int k l]) K w:=by
 obtain⟨v,H,G⟩:=i7 U;obtain⟨i,hi,X⟩:=pW H;have j:bF P e=i.size:=by simp[bF,hi]
 have C:pv P e=i.bytes:=by simp[pv,hi]
 have x:IntKind.wrap .i64 l=l:=zS W Z;have d:¬l<0:=by omega
 rw[C]at S;have g:¬(281474976710656:Int)<l*i.bytes:=by omega
 have f:∀w':World,(asInt (.int k l)).run P w'=.ok l w':=fun w'=>rfl
 have B:(gf v.cells l.toNat)=(cL l.toNat z).toArray:=by apply cr;rw[iL,G]
 have q:l.toNat*i.size=0→cL l.toNat z= []:=fun Q=>by
  have D:(cL l.toNat z).length=l.toNat*i.size:=by rw[←j,←O];unfold cL;simp
  exact aY.1 (by rw[D,Q])
 by_cases hc:sl+l.toNat≤c
 ·obtain⟨R,S,I⟩:=h.1 hc
  refine⟨_,_,?_,dd w (ez w.heap b (sl*bF P e) (cL l.toNat z)),I⟩;cases b with
  |none=>
   by_cases m:l.toNat*i.size=0
   ·simp[c8,aq (cU y),aq A,sizeOf,cx hi,f,x,d,g,hc,m];rfl
   ·simp[c8,aq (cU y),aq A,sizeOf,cx hi,f,x,d,g,hc,dS H];rfl
  |some a=>
   have n:=CE (P:=P) S R;rw[j]at n;by_cases m:l.toNat*i.size=0
   ·rw[q m]at n
    simp[c8,aq (cU y),aq A,sizeOf,cx hi,f,x,d,g,hc,n,ez,j,m,q m]
   ·simp[c8,aq (cU y),aq A,sizeOf,cx hi,f,x,d,g,hc,n,ez,j,m,dS H,B]
 ·obtain⟨old,z',V,F,L,J,I⟩:=h.2 (by omega)
  rw[U]at F;cases F;rw[C]at L J;have T:¬i.bytes=0:=by omega
  have p:¬(281474976710656<kw (sl+l.toNat) c*i.bytes):=by omega
  have Y:¬(9223372036854775807:Int)<((sl:Int)+(l.toNat:Int)):=by omega
  have o:¬(9223372036854775807:Int)<((sl:Int)+max l 0):=by omega
  have s:(dR (bF P e) sl (.slice b sl c)).run P w.drew=.ok old.toArray w.drew:=vO V;rw[j]at s;have N:sl+l.toNat≤(Question.appendCap (sl+l.toNat) c e).cut (w.tape w.drawn (.appendCap (sl+l.toNat) c e)):=Nat.le_add_right _ _;refine⟨_,hJ w.drew (hnew w.heap (old++cL l.toNat z++cL ((Question.appendCap (sl+l.toNat) c e).cut (w.tape w.drawn (.appendCap (sl+l.toNat) c e))-(sl+l.toNat)) z) e),?_,⟨rfl,rfl,rfl⟩,I _ N⟩
  have E:(gf v.cells ((Question.appendCap (sl+l.toNat) c e).cut (w.tape w.drawn (.appendCap (sl+l.toNat) c e))-(sl+l.toNat)))=(cL ((Question.appendCap (sl+l.toNat) c e).cut (w.tape w.drawn (.appendCap (sl+l.toNat) c e))-(sl+l.toNat)) z).toArray:=by
   apply cr;rw[iL,G]
  by_cases m:l.toNat*i.size=0
  ·rw[q m]at I⊢
   simp[c8,aq (cU y),aq A,sizeOf,cx hi,f,x,d,g,hc,o,p,Question.forced,s,dS H,jn,E,aR,m];rfl
  ·simp[c8,aq (cU y),aq A,sizeOf,cx hi,f,x,d,g,hc,o,p,Question.forced,s,dS H,jn,E,aR,m,B];rfl
theorem Cs{t u ty:TypeId}{k0:IntKind}{s x:Value}{K:WK}{w:World}(g:P.underlying u=some (.int k0))(h:Ct P t s x K w.heap):
  Wv P (c8 #[t,u] ty #[s,x]) K w:=by
 unfold Ct at h;split at h
 ·rename_i e b sl sc k l ht
  split at h
  ·rename_i z hz
   cases hb:ax z.length (bF P e)with
   |false=>rw[hb]at h;exact h.elim
   |true=>
    rw[hb]at h;obtain⟨⟨d,f,i,c⟩,a⟩:=h;exact KQ ht g hz (aL hb) d f i c a
  ·exact h.elim
 ·exact h.elim
theorem kI:∀{a b:List Value},bM a=true→bM b=true→bM (a++b)=true
 | [],_,_,h=>h
 |v::a,b,h,k=>by
  simp only[bM,ld,aQ]at h⊢;exact⟨h.1,kI h.2 k⟩
theorem yk{z:List Value}(h:bM z=true):∀n,bM (cL n z)=true
 |0=>rfl
 |n+1=>by
  have:cL (n+1) z=z++cL n z:=by simp[cL,List.replicate_succ]
  rw[this];exact kI h (yk h n)
theorem FM{t ty:TypeId}{x:Value}{K:WK}{w:World}(h:Jm P t x K w.heap):Wv P (qW #[t] ty #[x]) K w:=by
 unfold Jm at h;split at h
 ·rename_i e a n c ht
  split at h
  ·rename_i z hz
   obtain⟨v,j,f⟩:=i7 hz;cases ho:bM z with
   |false=>rw[ho]at h;exact h.elim
   |true=>
    rw[ho]at h;obtain⟨i,g⟩:=h;refine⟨_,_,?_,dd w (ez w.heap a 0 (cL n z)),g⟩;cases a with
    |none=>simp[qW,aq (cU ht)];rfl
    |some a=>
     cases n with
     |zero=>simp[qW,aq (cU ht)];rfl
     |succ n=>
      have b:=CE (P:=P) (yk ho (n+1)) i;rw[←si,DF]at b;have d:(gf v.cells (n+1)).toList=cL (n+1) z:=by rw[iL,f]
      simp[qW,aq (cU ht),dS j,d,b,ez]
  ·exact h.elim
 ·exact h.elim
theorem yl:∀(xs:List Value) (n:Nat),bM xs=true→bM (xs.take n)=true
 | [],n,_=>by simp[bM]
 |x::xs,0,_=>by simp[bM]
 |x::xs,n+1,h=>by
  simp only[bM,aQ,List.take_succ_cons]at h⊢;exact⟨h.1,yl xs n h.2⟩
theorem Eb(x:ByteArray):bM (cj x)=true:=by
 have:∀l:List UInt8,bM (l.map fun b=>.int .u8 (b.toNat:Int))=true:=by
  intro l;induction l with
  |nil=>rfl
  |cons b l ih=>simp[bM,ih]
 exact this _
theorem Hh{t u ty:TypeId}{d s:Value}{K:WK}{w:World}(h:ND P t d s K w.heap):Wv P (oD #[t,u] ty #[d,s]) K w:=by
 unfold ND at h;split at h
 ·rename_i e b dl dc a sl sc ht
  obtain⟨⟨xs,o,n,p,k⟩,g⟩:=nN h;refine⟨_,_,?_,dd w (ez w.heap b 0 xs),k⟩;have j:=vO (P:=P) (len:=sl) (cap:=sc) o;cases b with
  |none=>simp[oD,aq (cU ht),oC,g,j,goInt];rfl
  |some c=>
   have f:=CE (P:=P) (m:=0) p n;simp only[Addr.add,if_pos]at f;simp[oD,aq (cU ht),oC,g,j,goInt,f,ez]
 ·rename_i e b dl dc x ht
  cases hb:ax (bF P e) 1 with
  |false=>rw[hb]at h;exact h.elim
  |true=>
   rw[hb]at h;have p:=aL hb;obtain⟨i,hi⟩:=yA (P:=P) (t:=e) (by omega);have g:(sizeOf e).run P w=.ok (bF P e) w:=by simp[sizeOf,cx hi,bF,hi]
   obtain⟨n,k⟩:=h;have v:(cj x).length=x.size:=by simp[cj]
   have q:(cj x).take (cZ x.size dl)=(cj x).take dl:=by
    by_cases hx:x.size≤dl
    ·rw[show cZ x.size dl=x.size from Nat.min_eq_left hx,bq (by omega),bq (by omega)]
    ·rw[show cZ x.size dl=dl from Nat.min_eq_right (by omega)]
   have j:(dR (bF P e) (cZ x.size dl) (.string x)).run P w=.ok ((cj x).take dl).toArray w:=by
    rw[Bl,q]
   refine⟨_,_,?_,dd w (ez w.heap b 0 ((cj x).take dl)),k⟩;cases b with
   |none=>simp[oD,aq (cU ht),oC,g,j,goInt];rfl
   |some c=>
    have f:=CE (P:=P) (m:=0) (yl _ dl (Eb x)) n;simp only[Addr.add,if_pos]at f;simp[oD,aq (cU ht),oC,g,j,goInt,f,ez]
 ·exact h.elim
theorem Ls(k v:Value)(a:Nat):∀(es:List MapEntry),(match es.findIdx? (fun e=>eT k e.key)with
  |some i=>(es.modify i (fun e=>{e with key:=k,val:=v}),a)
  |none=>(es++ [{key:=k,val:=v,born:=a}],a+1))=Gb k v a es
 | []=>rfl
 |e::es=>by
  have b:=Ls k v a es;simp only[Gb,List.findIdx?_cons];cases hk:eT k e.key with
  |true=>simp[List.modify]
  |false=>
   simp only[cM,if_false];rw[←b];cases hf:es.findIdx? (fun e=>eT k e.key)with
   |none=>simp
   |some i=>simp[List.modify]
theorem uU{d:TypeDesc}{c:CK}(hd:m6 d c)(x:c.den):∀(es:List MapEntry) (i:Nat),keysOf c es→
  lP d (c.enc x) es i=some (match es.findIdx? (fun e=>eT (c.enc x) e.key)with
   |some j=>(es[j]?).map fun e=>(i+j,e.val)
   |none=>none)
 | [],i,_=>rfl
 |e::es,i,h=>by
  obtain⟨y,k⟩:=h e (by simp);have b:=A5 hd x y;rw[←k]at b;have f:=uU hd x es (i+1) fun g a=>h g (by simp[a])
  simp only[lP,List.findIdx?_cons,b];cases hb:eT (c.enc x) e.key with
  |true=>simp
  |false=>
   simp only[cM,if_false];rw[f];cases hf:es.findIdx? (fun e=>eT (c.enc x) e.key)with
   |none=>simp
   |some j=>simp[Nat.add_assoc,Nat.add_comm 1 j]
theorem uf{a b:ByteArray}(h:(a==b)=true):a=b:=by
 cases a with|mk a=>cases b with|mk b=>
 have h:(a==b)=true:=h;rw[eq_of_beq h]
theorem vq(a:ByteArray):(a==a)=true:=by
 cases a with|mk a=>
 exact beq_self_eq_true a
theorem FZ{d:TypeDesc}{c:CK}(hd:m6 d c)(x y:c.den)(h:eT (c.enc x) (c.enc y)=true):Instr.sameBits 10000 (c.enc y) (c.enc x)=true:=by
 rcases hd with⟨i,rfl,rfl⟩|⟨rfl,rfl⟩|⟨rfl,rfl⟩
 ·have h:x=y:=eq_of_beq (α:=Int) h
  subst h;have:∀n:Int,(i==i&&n==n)=true:=fun n=>by simp
  exact this x
 ·have h:x=y:=uf h
  subst h;exact vq x
 ·have h:x=y:=eq_of_beq (α:=Bool) h
  subst h;exact beq_self_eq_true (α:=Bool) x
theorem tA{w:World}{r:Nat}{es:Array MapEntry}{a:Nat}{o:Obj}(h:w.heap[r]? =some (.map es a)):(setObj r o).run P w=.ok () (hJ w (w.heap.setIfInBounds r o)):=by
 simp only[setObj,lW,h];rfl
theorem Kb{t k e:TypeId}{d:TypeDesc}{c:CK}(B:P.underlying t=some (.map k e))(p:P.underlying k=some d)(hd:m6 d c){r:Nat}{x:c.den}{v:Value}{w:World}(hm:vr c w.heap r):
  (Instr.mapUpdate t (.map (some r)) (c.enc x) v).run P w=.ok () (hJ w (kJ w.heap r (c.enc x) v)):=by
 obtain⟨es,a,j,f⟩:=hm;obtain⟨q,A,b,C⟩:=tD (P:=P) hd p x f w;rw[uU hd x es.toList 0 f]at b;have g:=Ls (c.enc x) v a es.toList;have o:kJ w.heap r (c.enc x) v=w.heap.setIfInBounds r (.map (Gb (c.enc x) v a es.toList).1.toArray (Gb (c.enc x) v a es.toList).2):=by
  simp only[kJ,j]
 rw[o,←g];simp only[Instr.mapUpdate,aH,aq B,ar,j9 j,lI hd p,A];cases hf:es.toList.findIdx? (fun e=>eT (c.enc x) e.key)with
 |none=>
  rw[hf]at b;simp only[aZ.injEq]at b;subst b;simp only[tA j];congr 4
  apply cr;simp
 |some i=>
  rw[hf]at b;simp only[aZ.injEq]at b;obtain⟨hi,u,_⟩:=List.findIdx?_eq_some_iff_getElem.1 hf;have s:es.toList[i]? =some es.toList[i]:=aJ hi;rw[s]at b;simp only[lX,aD]at b;subst b;have m:es[i]? =some es.toList[i]:=by rw[←aS];exact s
  obtain⟨y,z⟩:=f es.toList[i] (List.getElem_mem hi);have n:Instr.sameBits 10000 (es.toList[i]).key (c.enc x)=true:=by
   rw[z]at u⊢;exact FZ hd x y u
  simp only[m,lX,Option.getD_some,Instr.keyThatStays,n,if_true,aH,bd,ar,tA j];congr 4
  apply cr;simp
theorem wB{t:TypeId}{m k v:Value}{K:WK}{w:World}(h:B4 P t m k v K w.heap):Wu P (Instr.mapUpdate t m k v) K w:=by
 unfold B4 at h;split at h
 ·rename_i c e m hc
  obtain⟨g,d,f,a,hd⟩:=uP hc;obtain⟨i,rfl,r,rfl,hm,b⟩:=CK.dec_sound h;exact⟨_,Kb f a hd hm,dd _ _,b⟩
 ·exact h.elim
theorem Ip(k:Value):∀(es:List MapEntry),(match es.findIdx? (fun e=>eT k e.key)with
  |some i=>es.eraseIdx i
  |none=>es)=Dn k es
 | []=>rfl
 |e::es=>by
  have a:=Ip k es;simp only[Dn,List.findIdx?_cons];cases hk:eT k e.key with
  |true=>simp
  |false=>
   simp only[cM,if_false];rw[←a];cases hf:es.findIdx? (fun e=>eT k e.key)<;>simp
theorem H3{t k e ty:TypeId}{ts:Array TypeId}{d:TypeDesc}{c:CK}(v:ts[0]? =some t) (y:P.underlying t=some (.map k e)) (p:P.underlying k=some d) (hd:m6 d c) {r:Nat} {x:c.den} {w:World} (hm:vr c w.heap r):
  (pB ts ty #[.map (some r),c.enc x]).run P w=.ok (.tuple #[]) (hJ w (CV w.heap r (c.enc x))):=by
 obtain⟨es,g,m,j⟩:=hm;obtain⟨q,u,b,z⟩:=tD (P:=P) hd p x j w;rw[uU hd x es.toList 0 j]at b;have f:=Ip (c.enc x) es.toList;have n:CV w.heap r (c.enc x)=w.heap.setIfInBounds r (.map (Dn (c.enc x) es.toList).toArray g):=by
  simp only[CV,m]
 rw[n,←f];simp only[pB,v,List.getElem?_toArray,List.getElem?_cons_zero,List.getElem?_cons_succ,aH,aq y,ar,j9 m,lI hd p,u];cases hf:es.toList.findIdx? (fun e=>eT (c.enc x) e.key)with
 |none=>
  rw[hf]at b;simp only[aZ.injEq]at b;subst b;simp[tA m]
 |some i=>
  rw[hf]at b;simp only[aZ.injEq]at b;obtain⟨hi,A,_⟩:=List.findIdx?_eq_some_iff_getElem.1 hf;have s:es.toList[i]? =some es.toList[i]:=aJ hi;rw[s]at b;simp only[lX,aD]at b;subst b;have o:i<es.size:=by simpa using hi
  have a:es.eraseIdxIfInBounds i=(es.toList.eraseIdx i).toArray:=by
   apply cr;simp[Array.eraseIdxIfInBounds,o]
  simp[tA m,a]
theorem Cq{t ty:TypeId}{ts:Array TypeId}{m k:Value}{K:WK}{w:World}(f:ts[0]? =some t) (h:Cr P t m k K w.heap):Wv P (pB ts ty #[m,k]) K w:=by
 unfold Cr at h;split at h
 ·rename_i c e m hc
  obtain⟨i,d,g,b,hd⟩:=uP hc;obtain⟨j,rfl,h⟩:=CK.dec_sound h;rcases h with⟨rfl,a⟩|⟨r,rfl,hm,a⟩
  ·refine⟨_,w,?_,Tame.refl w,a⟩
   simp[pB,f,aq g,lI hd b]
  ·exact⟨_,_,H3 f g b hd hm,dd _ _,a⟩
 ·exact h.elim
theorem Mf{t k e:TypeId}(b:P.underlying t=some (.map k e)){m:Option Nat}{a:Nat}{w:World}(hm:m=none∧a=0∨∃r es,m=some r∧w.heap[r]? =some (.map es a)):
  (rW t (.map m)).run P w=.ok (.pointer (some (aR w.heap))) (hJ w (w.heap.push (.mapIter m a #[] a))):=by
 rcases hm with⟨rfl,rfl⟩|⟨r,es,rfl,c⟩
 ·simp only[rW,aH,aq b,ar,bd,xf,aR]
 ·simp only[rW,aH,aq b,ar,bd,j9 c,xf,aR]
theorem JK{t:TypeId}(a:P.underlying t=some .string){s:ByteArray}{w:World}:
  (rW t (.string s)).run P w=.ok (.pointer (some (aR w.heap))) (hJ w (w.heap.push (.stringIter s 0))):=by
 simp only[rW,aH,aq a,ar,bd,xf,aR]
theorem uI{w:World}{i:Nat}{m:Option Nat}{a:Nat}{b:Array Nat}{last:Nat}(h:w.heap[i]? =some (.mapIter m a b last)):(getObj i).run P w=.ok (.mapIter m a b last) w:=by
 simp only[getObj,lW,h]
theorem Hz{w:World}{i:Nat}{m:Option Nat}{a:Nat}{b:Array Nat}{last:Nat}{o:Obj}(h:w.heap[i]? =some (.mapIter m a b last)):(setObj i o).run P w=.ok () (hJ w (w.heap.setIfInBounds i o)):=by
 simp only[setObj,lW,h];rfl
theorem Dx(n:Nat)(a:0<n)(w:World):∃k w',k<n∧(choose (.mapNext n)).run P w=.ok k w'∧Tame w w'∧w'.heap=w.heap:=by
 unfold choose;simp only[lW];by_cases h:(Question.mapNext n).forced=true
 ·exact⟨0,w,a,by rw[if_pos h],Tame.refl w,rfl⟩
 ·refine⟨(Question.mapNext n).cut (w.tape w.drawn (.mapNext n)),{w with drawn:=w.drawn+1},Nat.mod_lt _ a,by rw[if_neg h],⟨rfl,rfl,rfl⟩,rfl⟩
theorem Hg{L:Value}{t:TypeId}{K:WK}{w:World}(h:NC L K w.heap):Wv P (oe L false t) K w:=by
 unfold NC at h;split at h
 ·rename_i a
  obtain⟨N,m,j,f,last,hi,h⟩:=h;obtain⟨b,off,J⟩:=a;simp only at N hi h;subst N;rcases h with⟨rfl,S⟩|⟨r,es,v,rfl,I,C,B,G⟩
  ·exact⟨_,w,by simp only[oe,aH,uI hi,ar,bd],Tame.refl w,S⟩
  ·have s:(!f.isEmpty&& !es.isEmpty&&es.all (fun e=>decide (e.born≥last)))=false:=by
    rcases C with h|h|h<;>simp[h]
   obtain⟨left,i⟩:∃left,left=es.filter fun e=> !f.contains e.born:=⟨_,rfl⟩
   obtain⟨old,p⟩:∃old,old=left.filter (·.born<j):=⟨_,rfl⟩
   obtain⟨new,hnew⟩:∃new,new=left.filter (·.born≥j):=⟨_,rfl⟩
   obtain⟨d,g⟩:∃d:Array (Option MapEntry),d=(if old.isEmpty then #[none]else #[])++(old++new).map some:=⟨_,rfl⟩
   have A:0<d.size:=by
    rw[g];by_cases y:old.isEmpty=true
    ·simp[y];omega
    ·have:old.size≠0:=by simpa using y
     simp[y];omega
   obtain⟨k,D,R,u,O,E⟩:=Dx (P:=P) d.size A w;obtain⟨c,hc⟩:∃c,d[k]? =some c:=⟨d[k],Array.getElem?_eq_getElem R⟩;have H:D.heap[b]? =some (.mapIter (some r) j f last):=by rw[E];exact hi
   have o:(!f.isEmpty&& !es.isEmpty&&es.all fun x=>decide (x.born≥last))=false:=s
   cases c with
   |none=>
    refine⟨.tuple #[.bool false],D,?_,O,?_⟩
    ·simp only[oe,aH,uI hi,ar,bd,j9 I,o,cM,if_false,←i,←p,←hnew,←g,u,hc]
    ·rw[E]
     have q:old.isEmpty=true:=by
      have hm:none∈d:=nH hc;rw[g]at hm;by_cases y:old.isEmpty=true
      ·exact y
      ·simp[y]at hm
     refine B fun e Q F=>?_
     cases hs:f.contains e.born with
     |true=>rfl
     |false=>
      have n:e∈old:=by
       rw[p,i];simp only[oh];exact⟨⟨by simpa using Q,by rw[hs];rfl⟩,by simpa using F⟩
      rw[Array.isEmpty_iff]at q;rw[q]at n;simp at n
   |some e=>
    have n:e∈es∧f.contains e.born=false:=by
     have hm:some e∈d:=nH hc;have z:e∈left:=by
      rw[g]at hm;rw[Array.mem_append]at hm;rcases hm with hm|hm
      ·split at hm<;>simp at hm
      ·simp only[Array.mem_map,aZ.injEq,exists_eq_right,Array.mem_append]at hm
       rcases hm with hm|hm
       ·rw[p]at hm;exact(oh.1 hm).1
       ·rw[hnew]at hm;exact(oh.1 hm).1
     rw[i]at z;have:=oh.1 z;exact⟨this.1,by simpa using this.2⟩
    refine⟨.tuple #[.bool true,e.key,e.val],hJ D (D.heap.setIfInBounds b (.mapIter (some r) j (f.push e.born) v)),?_,O.trans (dd _ _),?_⟩
    ·simp only[oe,aH,uI hi,ar,bd,j9 I,o,cM,if_false,←i,←p,←hnew,←g,u,hc,Hz H]
    ·rw[E]
     exact G e (by simpa using n.1) n.2
 ·exact h.elim
theorem FL{i:Value}{t:TypeId}{K:WK}{w:World}(h:Jl i K w.heap):Wv P (oe i true t) K w:=by
 unfold Jl at h;split at h
 ·rename_i a
  obtain⟨j,s,pos,hi,h⟩:=h;obtain⟨b,off,m⟩:=a;simp only at j hi h;subst j;have k:(getObj b).run P w=.ok (.stringIter s pos) w:=by simp only[getObj,lW,hi]
  rcases h with⟨o,g⟩|⟨c,hc,f,g⟩
  ·exact⟨_,w,by simp only[oe,aH,k,ar,if_neg (gO.2 o),bd],Tame.refl w,g⟩
  ·have d:pos<s.size:=by
    rcases Nat.lt_or_ge pos s.size with h'|h'
    ·exact h'
    ·rw[getElem?_neg s pos (gO.2 h')]at hc;cases hc
   have e:(s[pos]'d)=c:=by rw[getElem?_pos s pos d]at hc;exact aZ.inj hc
   have hd:=decode_ascii s pos d (by rw[e];exact f);rw[e]at hd;have n:(setObj b (.stringIter s (pos+1))).run P w=.ok () (hJ w (w.heap.setIfInBounds b (.stringIter s (pos+1)))):=by simp only[setObj,lW,hi];rfl
   exact⟨_,_,by simp only[oe,aH,k,ar,if_pos d,hd,n,bd];rfl,dd _ _,g⟩
 ·exact h.elim
theorem Fl{w:World}{g n:Nat}(a:n≠0):w.freeze ⟨g,0,none⟩ n=hJ w (hfreeze w.heap g n):=by
 unfold World.freeze;rw[if_neg a];rfl
theorem Hf{t f ty:TypeId}{p n:Value}{K:WK}{w:World}(h:NB P t p n K w.heap):Wv P (Builtin.unsafeString_ #[t,f] ty #[p,n]) K w:=by
 unfold NB at h;split at h
 ·rename_i e a n hu
  cases hc:ax (P.cellsOf e) 1 with
  |false=>rw[hc]at h;exact h.elim
  |true=>
   rw[hc]at h;rcases h with⟨rfl,c⟩|⟨l,g,cs,rfl,rfl,b,i,d,k,hx,c⟩
   ·exact⟨_,w,Lib.run_unsafeString_none ..,Tame.refl w,c⟩
   ·refine⟨_,_,Lib.run_unsafeString_row w t f ty e hu (aL hc) g cs.size (by simp[World.shape?,d]) l b k i ?_,?_,?_⟩
    ·intro j x m
     have:=hx j x m;have e:((⟨g,0,none⟩:Addr).add j)=⟨g,j,none⟩:=by unfold Addr.add;split<;>simp_all
     rw[e];simp[World.cell?,d,this]
    ·rw[Fl (by simpa using b)];exact dd _ _
    ·rw[Fl (by simpa using b)];exact c
 ·exact h.elim
theorem Ed{t e:TypeId}{z:List Value}{k k':IntKind}{l c:Int}{w:World}(x:ue P t=some e)(D:pi P e=some z)(b:z.length=bF P e)(B:0≤l)(F:l≤c)(E:c≤9223372036854775807)(A:pv P e*c≤2^48):
  (Instr.makeSlice t (.int k l) (.int k' c)).run P w=.ok (.slice (some (aR w.heap)) l.toNat c.toNat) (hJ w (hnew w.heap (cL c.toNat z) e)):=by
 obtain⟨v,y,d⟩:=i7 D;obtain⟨i,hi,C⟩:=pW y;have g:bF P e=i.size:=by simp[bF,hi]
 have m:pv P e=i.bytes:=by simp[pv,hi]
 have n:v.cells.size=i.size:=by rw[←g,←b,←d];simp
 have u:=zS B (by omega);have hc:=zS (show 0≤c by omega) E
 rw[m]at A;have c1:¬(c<0):=by omega
 have s:¬(281474976710656<(i.bytes:Int)*c):=by omega
 have q:¬(l<0):=by omega
 have p:¬(c<l):=by omega
 by_cases a:c.toNat*i.size=0
 ·have o:(cL c.toNat z).length=0:=by simp[cL,b,g,a]
  rw[aY.1 o];simp[Instr.makeSlice,aq (cU x),asInt,asIntOf,cx hi,u,hc,c1,s,q,p,sizeOf,a,jn]
 ·have f:((Array.range (c.toNat*i.size)).map (fun j=>v.cells[j%v.cells.size]!))=(cL c.toNat z).toArray:=by
   rw[←n,Ld,d]
  have key:(newRow e ((Array.range (c.toNat*i.size)).map (fun j=>v.cells[j%v.cells.size]!))).run P w=.ok (aR w.heap) (hJ w (hnew w.heap (cL c.toNat z) e)):=by
   rw[f,jn]
  simp[Instr.makeSlice,aq (cU x),asInt,asIntOf,cx hi,u,hc,c1,s,q,p,sizeOf,a,dS y];rw[key];rfl
theorem Agree.args{N:Nat}{r:cd}{a:Act}(h:Agree N r a){os:Array Operand}{vs:List Value}(b:l7 r os.toList=some vs):os.map a.eval=vs.toArray:=by
 rw[←kF h b];apply cr;simp
theorem HC.out{f:FuncId}{args:List Value}{ks:List Kind}{K:WK}{w:World}(h:HC P f args ks (fun x h'=>K (yh ks (ki ks x)) h') w.heap):II P (callFunc f args.toArray) K w:=by
 rcases h.run w rfl with⟨c,d⟩|⟨v,w',c,a,x,rfl,b⟩
 ·refine .inr (.inr (.inl ⟨f,args.toArray,c,d.mono ?_⟩))
  rintro e w' ⟨a,x,rfl,b⟩;exact⟨a,_,rfl,b⟩
 ·exact .inl ⟨_,w',c,a,b⟩
theorem M3{a b e:TypeId}{s:ByteArray}{w:World}(j:P.underlying a=some .string)(hd:P.underlying b=some (.slice e))(g:P.underlying e=some (.int .u8)):
  ∃c,s.size≤c∧(convert a b (.string s)).run P w=.ok (.slice (some (aR w.heap)) s.size c) (hJ w.drew (w.heap.push (.cells (cj s++bw (c-s.size) (Value.int .u8 0)).toArray e (c,c+1)))):=by
 have f:s.size≤grownCap w s.size 0 e:=Nat.le_add_right _ _;refine⟨_,f,?_⟩;rw[Go.Lib.run_convert_string_bytes w a b e s j hd g];have hc:(Go.Lib.bytesCells w e s).size=grownCap w s.size 0 e:=by
  unfold Go.Lib.bytesCells;rw[Array.size_append,Array.size_map,Array.size_replicate,show s.data.size=s.size from rfl]
  omega
 have d:(cj s++bw (grownCap w s.size 0 e-s.size) (Value.int .u8 0)).toArray=Go.Lib.bytesCells w e s:=by
  unfold Go.Lib.bytesCells cj;apply cr;simp
 rw[d];unfold Go.Lib.bytesWorld World.freeze;rw[if_neg (by omega),hc];unfold World.alloc World.drew hJ;congr 1
 congr 1
 apply Array.ext (by simp);intro i m k;rw[Array.getElem_modify];simp only[Array.getElem_push];split
 ·rename_i e
  subst e;simp
 ·rename_i e
  have hi:i<w.heap.size:=by simp at k;omega
  rw[dif_pos hi,dif_pos hi]
theorem zU{o:Oper}{r:cd}{K:WK}{w:World}{N:Nat}{a:Act}(H:Agree N r a)(j:D3 P o r K w.heap):II P (execOp a.eval o) K w:=by
 have B:∀{x:Operand} {v:Value},cJ r x=some v→a.eval x=v:=fun h=>jb H h
 obtain⟨Z,op,G,pos,I,L⟩:=o;cases op with
 |alloc t=>
  simp only[D3]at j;split at j
  ·rename_i z hz
   obtain⟨v,F,X⟩:=i7 hz;have D:(Instr.alloc t true (.tuple #[])).run P w=.ok (.pointer (some (aR w.heap))) (hJ w (hnew w.heap z t)):=by
    simp[Instr.alloc,dS F,newVar,jn,X]
   exact Wv.out ⟨_,_,D,dd _ _,j⟩
  ·exact j.elim
 |box t x=>
  simp only[D3]at j;split at j
  ·rename_i v F
   have D:(Instr.box t v).run P w=.ok (.pointer (some (aR w.heap))) (hJ w (hnew w.heap v.cells.toList t)):=by
    simp[Instr.box,newVar,jn]
   simp only[execOp,B F];exact Wv.out ⟨_,_,D,dd _ _,j⟩
  ·exact j.elim
 |build t ps=>
  simp only[D3]at j;split at j
  ·rename_i vs q
   split at j
   ·rename_i cs hcs
    have U:(ps.map fun x=>(x.1,a.eval x.2))=vs.toArray:=by
     rw[←mN H q];apply cr;simp
    have D:=yM (ps:=vs.toArray) (by simpa using hcs) w;simp only[execOp];rw[show(ps.map fun(i,x)=>(i,a.eval x))=vs.toArray from U]
    exact Wv.out ⟨_,w,D,Tame.refl w,j⟩
   ·exact j.elim
  ·exact j.elim
 |buildSlice t n ps=>
  simp only[D3]at j;split at j
  ·rename_i e vs O q
   split at j
   ·rename_i z hz
    cases hb:(vZ (n*bF P e) 16777216&&ax z.length (bF P e))with
    |false=>rw[hb]at j;exact j.elim
    |true=>
     rw[hb]at j;simp only[aQ]at hb;simp only[cond_true]at j;split at j
     ·rename_i cs hcs
      have U:(ps.map fun x=>(x.1,a.eval x.2))=vs.toArray:=by
       rw[←mN H q];apply cr;simp
      have D:=AB (ps:=vs.toArray) O hz (gU hb.1) (aL hb.2) (by simpa using hcs) w;simp only[execOp];rw[show(ps.map fun(i,x)=>(i,a.eval x))=vs.toArray from U]
      exact Wv.out ⟨_,_,D,dd _ _,j⟩
     ·exact j.elim
   ·exact j.elim
  ·exact j.elim
 |store t x y=>
  simp only[D3]at j;split at j
  ·rename_i b v hb F
   simp only[execOp,B hb,B F];exact Wu.out (FK j)
  ·exact j.elim
 |mapUpdate t m k x=>
  simp only[D3]at j;split at j
  ·rename_i mv kv xv hm C hx
   simp only[execOp,B hm,B C,B hx];exact Wu.out (wB j)
  ·exact j.elim
 |insert t m k x=>
  simp only[D3]at j;split at j
  ·rename_i mv kv xv hm C hx
   simp only[execOp,B hm,B C,B hx];exact Wu.out (wB j)
  ·exact j.elim
 |makeMap t n=>
  simp only[D3]at j;cases n with
  |none=>exact Wv.out ⟨_,hJ w (w.heap.push (.map #[] 0)),by simp[Instr.makeMap];rfl,dd _ _,j⟩
  |some n=>
   simp only at j;split at j
   ·rename_i k i hn O
    exact Wv.out ⟨_,hJ w (w.heap.push (.map #[] 0)),by simp[Instr.makeMap,B hn,aq O,asInt,asIntOf];rfl,dd _ _,j⟩
   ·exact j.elim
 |makeSlice t l c=>
  simp only[D3]at j;split at j
  ·rename_i e k l' k' c' O W hc
   split at j
   ·rename_i z hz
    cases hb:ax z.length (bF P e)with
    |false=>rw[hb]at j;exact j.elim
    |true=>
     rw[hb]at j;obtain⟨⟨h0,Y,h2,h3⟩,j⟩:=j;simp only[execOp,B W,B hc];exact Wv.out ⟨_,_,Ed O hz (aL hb) h0 Y h2 h3,dd _ _,j⟩
   ·exact j.elim
  ·exact j.elim
 |convert s d x=>
  simp only[D3]at j;split at j
  ·rename_i e v T hd hx
   cases hu:Kh P e with
   |false=>rw[hu]at j;exact j.elim
   |true=>
    rw[hu]at j;obtain⟨c,hc,Q⟩:=M3 (w:=w) (s:=v) T hd (C2 hu);simp only[execOp,B hx];exact Wv.out ⟨_,_,Q,⟨rfl,rfl,rfl⟩,j c hc⟩
  ·exact j.elim
 |range t x=>
  simp only[D3]at j;split at j
  ·rename_i k e m hu hx
   obtain⟨V,hm,j⟩:=j;simp only[execOp,B hx];exact Wv.out ⟨_,_,Mf hu hm,dd _ _,j⟩
  ·rename_i s hu hx
   simp only[execOp,B hx];exact Wv.out ⟨_,_,JK hu,dd _ _,j⟩
  ·exact j.elim
 |next it isS=>
  cases isS with
  |true=>
   simp only[D3]at j;split at j
   ·rename_i v F
    simp only[execOp,B F];exact Wv.out (FL j)
   ·exact j.elim
  |false=>
   simp only[D3]at j;split at j
   ·rename_i v F
    simp only[execOp,B F];exact Wv.out (Hg j)
   ·exact j.elim
 |call c=>
  simp only[D3]at j;have R:∀{b:Builtin} {vs:List Value},c.callee=.builtin b→l7 r c.args.toList=some vs→∃cs:Array Bool,∀w,(execOp a.eval ⟨Z,.call c,G,pos,I,L⟩).run P w=
    (builtin b c.argTypes G cs vs.toArray).run P w:=by
   intro b vs hc q;refine⟨c.args.map fun| .const _=>true|_=>false,fun w=>?_⟩
   simp[execOp,resolve,hc,H.args q,invoke];rfl
  have J:∀{s s':Sem Next},(∀w,s.run P w=s'.run P w)→II P s' K w→II P s K w:=by
   intro s s' D h;unfold II at h⊢;simp only[D];exact h
  split at j
  ·rename_i s x hc q
   split at j
   ·rename_i t u hat
    obtain⟨cs,E⟩:=R hc q;refine J E ?_;have A:c.argTypes= #[t,u]:=by apply cr;rw[hat]
    simp only[builtin,A];split at j
    ·rename_i e' hu;exact Wv.out (wC (.inl ⟨e',hu⟩) j)
    ·rename_i hu;exact Wv.out (wC (.inr hu) j)
    ·rename_i k0 hu;exact Wv.out (Cs hu j)
    ·exact j.elim
   ·exact j.elim
  ·rename_i x hc q
   split at j
   ·rename_i t hat
    obtain⟨cs,E⟩:=R hc q;refine J E ?_;have A:c.argTypes= #[t]:=by apply cr;rw[hat]
    simp only[builtin,A];exact Wv.out (FM j)
   ·exact j.elim
  ·rename_i s x hc q
   split at j
   ·rename_i t u hat
    obtain⟨cs,E⟩:=R hc q;refine J E ?_;have A:c.argTypes= #[t,u]:=by apply cr;rw[hat]
    simp only[builtin,A];exact Wv.out (Hh j)
   ·exact j.elim
  ·rename_i p n hc q
   split at j
   ·rename_i t u hat
    obtain⟨cs,E⟩:=R hc q;refine J E ?_;have A:c.argTypes= #[t,u]:=by apply cr;rw[hat]
    simp only[builtin,A];exact Wv.out (Hf j)
   ·exact j.elim
  ·rename_i m k hc q
   split at j
   ·rename_i t u hat
    obtain⟨cs,E⟩:=R hc q;refine J E ?_;simp only[builtin];exact Wv.out (Cq (by rw[←aS,hat];rfl) j)
   ·exact j.elim
  ·rename_i f args hc q
   unfold QN at j;split at j
   ·exact j.elim
   ·rename_i ks hks
    split at j
    ·rename_i f
     refine J (s':=callFunc f args.toArray) (fun w=>?_) j.out
     simp[execOp,resolve,hc,H.args q,Act.eval,Deferred.ofValue,invoke]
    ·rename_i f hf
     split at j
     ·rename_i fv hfv
      rcases j.run with⟨g,first,cap,rfl,S⟩|⟨l,rfl,S⟩
      rotate_left
      ·obtain⟨fn,tmps,assign,body,Y,h2⟩:=S.run w rfl
       refine .inr (.inr (.inr ⟨l,fn,tmps,assign,body,?_,fun c cs=>?_⟩))
       ·rw[←Y]
        simp[execOp,resolve,hc,H.args q,B hfv,Deferred.ofValue,invoke]
       ·obtain⟨b,w',O,C,T⟩:=h2 c cs
        refine⟨b,w',O,?_,T⟩;obtain⟨t,e,C⟩:=qD C;have W:ks.length=1:=by rw[←rk ks t,←e];rfl
        match ks,W,t,e,C with
        | [k],_,t,e,C=>rw[←e]at C;exact C
      refine J (s':=callFunc g (first.toList++args++cap.toList).toArray) (fun w=>?_) S.out
      have e:first++args.toArray++cap=(first.toList++args++cap.toList).toArray:=by apply cr;simp
      rw[←e];simp[execOp,resolve,hc,H.args q,B hfv,Deferred.ofValue,invoke]
     ·exact j.elim
  ·exact j.elim
 |_=>simp only[D3]at j
end Go.Lift
