/- A part of the proof that the named laws of this program answer true, whatever the input. -/
import Derived.Test.YtakmnggbneeicaaGreatLift0
import Derived.Laws.Append
import Derived.Laws.Cover3
import Derived.Laws.StructEq
import Derived.Laws.BytesString
import Derived.Lib.UnsafeStr
import Derived.Laws.RangeString
import Derived.Lib.ConvBytes
open Array renaming ext'→cM,getElem?_toList→bB,mem_filter→pF
open Bool renaming and_eq_true→bj,false_eq_true→cJ
open ByteArray renaming data_extract→oV
open Go.Builtin renaming firstCells→dW,len_→jW,cap_→vY,zeroCells→gH,lenOf→pN,append_→dq,nextslicecap→lQ,clear_→sK,copy_→pO,delete_→qD
open Go.Instr renaming sureAddr→lP,sliceBounds→fq,sliceAt→pM,sameNow→uu,findNow→mX,lookup→vW,range→ug,next→pD
open Go.Op renaming equalIn→fg
open Go.Result renaming andThen_ok→aC
open Go.Sem renaming run_bind→aZ,run_pure→bV,run→mg
open List renaming extract_eq_take_drop→fK,map_cons→bX,map_map→hE,take_of_length_le→aS,length_cons→au,cons_append→dz,replicate→fh,length_eq_zero_iff→aG,getElem?_eq_getElem→af
open Nat renaming beq→aJ,ble→vU,eq_of_beq_eq_true→bo,le_of_ble_eq_true→fV,add_zero→gZ,zero_add→aO,le_add_right→py,min→dh,not_lt→de
open Option renaming some→bK,isSome_iff_exists→gj,map_some→np
open Prod renaming mk→pK
open UInt8 renaming ofNat→uf
namespace Go.Lift
open Go
def Uc(S:Option (ad→Prop))(h:ad):Prop:=match S with|none=>True|some f=>f h
def Yv(P:Program)(s:Sem Value)(K:RK)(h:ad):Prop:=∃v S,K v S∧Uc S h∧∀w:World,Uc S w.heap→s.run P w=.ok v w
theorem Yv.of_pure{P:Program}{s:Sem Value}{K:RK}{h:ad}{v:Value}(a:K v none)(b:∀w:World,s.run P w=.ok v w):Yv P s K h:=
 ⟨v,none,a,trivial,fun w _=>b w⟩
variable {P:Program}
theorem xk{t:TypeId}{f:Nat}{u:TypeId}{off:Nat}(h:xm P t f=some (u,off)):
  ∃fs g,P.underlying t=some (.struct fs)∧fs[f]? =some g∧g.type=u∧g.offset=off:=by
 unfold xm at h;split at h
 ·rename_i fs hu
  split at h
  ·rename_i g hg
   simp only[bK.injEq,pK.injEq]at h;exact⟨fs,g,hu,by simpa using hg,h.1,h.2⟩
  ·cases h
 ·cases h
theorem y5{t:TypeId}(h:aJ (cq P t) 0=false)(w:World):(sizeOf t).run P w=.ok (cq P t) w:=by
 unfold cq at h⊢;cases hi:P.info? t with
 |none=>rw[hi]at h;cases h
 |some i=>simp[sizeOf,cN hi]
theorem DS{t:TypeId}{f:Nat}{u:TypeId}{off:Nat}{a:Addr}{K:RK}{h:ad}(d:xm P t f=some (u,off))
  (b:bif aJ (cq P u) 0 then False else K (.pointer (some (adr a off))) none):Yv P (Instr.fieldAt t (.pointer (some a)) f) K h:=by
 obtain⟨k,g,i,j,rfl,rfl⟩:=xk d;cases hz:aJ (cq P g.type) 0 with
 |true=>rw[hz]at b;exact b.elim
 |false=>
  rw[hz]at b;refine .of_pure b fun w=>?_
  have c:cq P g.type≠0:=fun e=>by rw[e]at hz;cases hz
  simp only[Instr.fieldAt,aZ,aB i,aC,j,lP,bV,fieldPlace,y5 hz];simp[c,un]
theorem vL{t:TypeId}{i:TypeInfo}(_:P.info? t=some i)(a:∃d,P.underlying t=some d)(w:World):(isAgg t).run P w=.ok (vM P t) w:=by
 obtain⟨d,hd⟩:=a;simp only[isAgg,aZ,aB hd,aC];unfold vM;rw[hd];cases d<;>rfl
theorem Aj{c:BinOp}{k k':IntKind}{a b:Int}{K:RK}{h:ad}(f:c=.shl∨c=.shr)(hv:M9 c k a b K):Yv P (Op.shift c k a k' b) K h:=by
 rcases f with rfl|rfl
 ·obtain⟨d,e⟩:=hv
  refine .of_pure e fun w=>?_
  simp[Op.shift,Int.not_lt.2 d]
 ·obtain⟨d,e⟩:=hv
  refine .of_pure e fun w=>?_
  simp[Op.shift,Int.not_lt.2 d]
theorem NT{c:BinOp}{k:IntKind}{a b:Int}{K:RK}{h:ad}(hv:Wp c k a b K)(f:c≠ .shl∧c≠ .shr):Yv P (binOp c 0 (.int k a) (.int k b)) K h:=by
 cases c<;>simp only[Wp]at hv
 case quo=>obtain⟨d,e⟩:=hv;exact .of_pure e fun w=>by simp[binOp,Op.intDiv,d]
 case rem=>obtain⟨d,e⟩:=hv;exact .of_pure e fun w=>by simp[binOp,Op.intDiv,d]
 all_goals exact .of_pure hv fun w=>by simp[binOp,Op.intArith,Op.intBits,Op.intCmp]
theorem F3(c:BinOp)(t:TypeId)(k k':IntKind)(a b:Int):binOp c t (.int k a) (.int k' b)=binOp c 0 (.int k a) (.int k' b):=by
 cases c<;>rfl
theorem M4{c:BinOp}{t:TypeId}{a b:ByteArray}{K:RK}{h:ad}(hv:V6 c a b K):Yv P (binOp c t (.string a) (.string b)) K h:=by
 cases c<;>simp only[V6]at hv
 case add=>
  obtain⟨e,d⟩:=hv;refine .of_pure d fun w=>?_
  have:¬(((a.size+b.size:Nat):Int)>IntKind.i64.max):=by
   have:IntKind.i64.max=9223372036854775807:=by decide
   omega
  simp only[binOp,Op.stringOp,if_neg this,bV]
 all_goals exact .of_pure hv fun w=>by simp[binOp,Op.stringOp]
theorem iT{t:TypeId}{x y:Value}{b:Bool}{w:World}(h:∀d,(fg (d+1) t x y).run P w=.ok b w):(Op.equal t x y).run P w=.ok b w:=h 9999
theorem FL{t:TypeId}{e:TypeId}(b:P.underlying t=some (.pointer e))(a:Option Addr)(w:World):(Op.equal t (.pointer a) (.pointer none)).run P w=.ok a.isNone w:=by
 refine iT fun d=>?_
 simp only[fg,aZ,aB b,aC];cases a<;>rfl
theorem N6(e:BinOp)(t:TypeId)(x y:Operand)(a b:Value)(h:∀c d,a=.agg c→b=.agg d→False)(hi:a=.nilIface→b=.nilIface→False)(w:World):
  (eqGuard e t x y a b).run P w=.ok () w:=by
 cases e;case eql=>cases a<;>cases b<;>first|rfl|exact(hi rfl rfl).elim|exact(h _ _ rfl rfl).elim
 case neq=>cases a<;>cases b<;>first|rfl|exact(hi rfl rfl).elim|exact(h _ _ rfl rfl).elim
 all_goals rfl
theorem QY(t:TypeId)(x y:Value)(hx:∀k a,x≠ .int k a)(c:∀s,x≠ .string s)(d:∀k a,x≠ .float k a)(hc:∀k a b,x≠ .complex k a b):binOp .eql t x y=(do pure (.bool (←Op.equal t x y))):=by
 cases x<;>first|rfl|exact absurd rfl (hx _ _)|exact absurd rfl (c _)|exact absurd rfl (d _ _)|exact absurd rfl (hc _ _ _)
theorem QX(t:TypeId)(x y:Value)(hx:∀k a,x≠ .int k a)(c:∀s,x≠ .string s)(d:∀k a,x≠ .float k a)(hc:∀k a b,x≠ .complex k a b):binOp .neq t x y=(do pure (.bool (!(←Op.equal t x y)))):=by
 cases x<;>first|rfl|exact absurd rfl (hx _ _)|exact absurd rfl (c _)|exact absurd rfl (d _ _)|exact absurd rfl (hc _ _ _)
theorem iU{t:TypeId}{neg:Bool}{x y:Value}{b:Bool}{w:World}(d:(Op.equal t x y).run P w=.ok b w)
  (hx:∀k a,x≠ .int k a)(c:∀s,x≠ .string s)(e:∀k a,x≠ .float k a)(hc:∀k a b,x≠ .complex k a b):
  (binOp (bif neg then .neq else .eql) t x y).run P w=.ok (.bool (bif neg then !b else b)) w:=by
 cases neg
 ·simp only[cond_false,QY t x y hx c e hc,aZ,d,aC,bV]
 ·simp only[cond_true,QX t x y hx c e hc,aZ,d,aC,bV]
theorem NS{x:Value}(h:XI x=true):(∃f a b,x=.func f a b)∨x=.nilFunc:=by
 cases x<;>first|exact .inr rfl|exact .inl ⟨_,_,_,rfl⟩|cases h
theorem NR{x:Value}(h:XH x=true):(∃t v,x=.iface t v)∨x=.nilIface:=by
 cases x<;>first|exact .inr rfl|exact .inl ⟨_,_,rfl⟩|cases h
theorem JI{y:Operand}(h:SN y=true):∃c,y=.const c:=by
 cases y<;>first|exact⟨_,rfl⟩|cases h
theorem L8(e:BinOp)(t:TypeId)(x:Operand)(c a b:Value)(h:∀c d,a=.agg c→b=.agg d→False)(w:World):
  (eqGuard e t x (.const c) a b).run P w=.ok () w:=by
 cases e;case eql=>cases a<;>cases b<;>first|rfl|exact(h _ _ rfl rfl).elim|(cases x<;>rfl)
 case neq=>cases a<;>cases b<;>first|rfl|exact(h _ _ rfl rfl).elim|(cases x<;>rfl)
 all_goals rfl
theorem Fg{t:TypeId}{neg:Bool}{x y:Value}{K:RK}{h:ad}(hv:UN P t neg x y K):
  (∀c d,x=.agg c→y=.agg d→False)∧Yv P (binOp (bif neg then .neq else .eql) t x y) K h:=by
 unfold UN at hv;split at hv
 ·rename_i e a hu
  refine⟨nofun,.of_pure hv fun w=>?_⟩
  exact iU (FL hu a w) nofun nofun nofun nofun
 ·rename_i k e a hu
  refine⟨nofun,.of_pure hv fun w=>?_⟩
  refine iU ?_ nofun nofun nofun nofun;refine iT fun d=>?_
  simp only[fg,aZ,aB hu,aC];cases a<;>rfl
 ·rename_i e a _ _ _ _ hu
  refine⟨nofun,.of_pure hv fun w=>?_⟩
  refine iU ?_ nofun nofun nofun nofun;refine iT fun d=>?_
  simp only[fg,aZ,aB hu,aC];cases a<;>rfl
 ·rename_i hu
  obtain⟨hx,g⟩:=hv;rcases NS hx with⟨f,a,b,e⟩|e<;>subst e
  ·refine⟨nofun,.of_pure g fun w=>iU (iT fun d=>?_) nofun nofun nofun nofun⟩
   simp only[fg,aZ,aB hu,aC];rfl
  ·refine⟨nofun,.of_pure g fun w=>iU (iT fun d=>?_) nofun nofun nofun nofun⟩
   simp only[fg,aZ,aB hu,aC];rfl
 ·rename_i hu
  obtain⟨hx,g⟩:=hv;rcases NR hx with⟨f,a,e⟩|e<;>subst e
  ·refine⟨nofun,.of_pure g fun w=>iU (iT fun d=>?_) nofun nofun nofun nofun⟩
   simp only[fg,aZ,aB hu,aC];rfl
  ·refine⟨nofun,.of_pure g fun w=>iU (iT fun d=>?_) nofun nofun nofun nofun⟩
   simp only[fg,aZ,aB hu,aC];rfl
 ·exact hv.elim
theorem wS{w:World}{a b:Addr}(d:eE w.heap a)(hb:eE w.heap b):(sameAddr a b).run P w=.ok (a==b) w:=by
 obtain⟨g,t,d,v⟩:=d;obtain⟨i,p,hb,sb⟩:=hb;by_cases c:a.block=b.block
 ·simp[sameAddr,c]
 ·have f:(a==b)=false:=by
   rw[beq_eq_false_iff_ne];intro e;exact c (by rw[e])
  have o:w.shape? a.block=some (t,g.size):=by simp[World.shape?,d]
  have u:w.shape? b.block=some (p,i.size):=by simp[World.shape?,hb]
  have f1:∀n,w.frozen? ({block:=a.block,off:=n}:Addr)=false:=fun n=>by simp[World.frozen?,d]
  have j:∀n,w.frozen? ({block:=b.block,off:=n}:Addr)=false:=fun n=>by simp[World.frozen?,hb]
  have q:w.frozen? a=false:=by simp[World.frozen?,d]
  have s:w.frozen? b=false:=by simp[World.frozen?,hb]
  obtain⟨m,hm⟩:∃m,g.size=m+1:=⟨g.size-1,by omega⟩
  obtain⟨n,k⟩:∃n,i.size=n+1:=⟨i.size-1,by omega⟩
  simp[sameAddr,c,noView,viewAt,mayBeOne,stringish,o,u,f1,j,q,s,hm,k,f]
theorem Ii{t:TypeId}{neg:Bool}{x y:Value}{K:RK}{h:ad}(hv:Yb P t neg x y K h):
  (∀c d,x=.agg c→y=.agg d→False)∧(x=.nilIface→y=.nilIface→False)∧Yv P (binOp (bif neg then .neq else .eql) t x y) K h:=by
 unfold Yb at hv;split at hv
 ·rename_i a b hu
  refine⟨nofun,nofun,.of_pure hv fun w=>?_⟩
  refine iU ?_ nofun nofun nofun nofun;refine iT fun d=>?_
  simp only[fg,aZ,aB hu,aC,bV]
 ·rename_i e a b hu
  obtain⟨i,n,j⟩:=hv;refine⟨nofun,nofun,_,_,j,n,fun w m=>?_⟩
  refine iU ?_ nofun nofun nofun nofun;have f:aJ (cq P e) 0=false:=by
   cases hb:aJ (cq P e) 0 with
   |false=>rfl
   |true=>rw[hb]at i;exact i.elim
  have g:cq P e≠0:=fun e=>by rw[e]at f;cases f
  refine iT fun d=>?_
  simp only[fg,aZ,aB hu,aC];cases a with
  |none=>cases b<;>rfl
  |some a=>cases b with
   |none=>rfl
   |some b=>
    obtain⟨k,o⟩:=m a b rfl rfl;simp only[aZ,y5 f,aC,ne_eq,g,not_false_eq_true,if_true,wS k o];rfl
 ·exact hv.elim
theorem zd{e:BinOp}{t:TypeId}{x y:Value}{K:RK}{h:ad}(hv:UG P e t x y K h):
  (∀c d,x=.agg c→y=.agg d→False)∧(x=.nilIface→y=.nilIface→False)∧Yv P (binOp e t x y) K h:=by
 unfold UG at hv;split at hv
 ·rename_i k a k' b
  refine⟨nofun,nofun,?_⟩;rw[F3];split at hv
  ·exact Aj (k':=k') (.inl rfl) hv
  ·exact Aj (k':=k') (.inr rfl) hv
  ·rename_i h1 h2
   cases hk:JM k' k with
   |false=>rw[hk]at hv;exact hv.elim
   |true=>rw[hk]at hv;have:=AA hk;subst this;exact NT hv ⟨h1,h2⟩
 ·exact⟨nofun,nofun,M4 hv⟩
 ·split at hv
  ·exact Ii (neg:=false) hv
  ·exact Ii (neg:=true) hv
  ·exact hv.elim
theorem LA{u:TypeId}{cs:List Value}{off:Nat}(a:((P.underlying u).isSome&&(P.info? u).isSome)=true){w:World}(c:vM P u=true):
  (part u cs.toArray off).run P w=.ok (.agg ((cs.drop off).take (cq P u)).toArray) w:=by
 simp only[bj,gj]at a;obtain⟨a,i,hi⟩:=a;have b:(sizeOf u).run P w=.ok (cq P u) w:=by simp[sizeOf,cN hi,cq,hi]
 simp only[part,aZ,vL hi a,aC,c,if_true,b,bV];congr 2
 apply cM;simp[fK]
theorem HK{u:TypeId}{cs:List Value}{off:Nat}(a:((P.underlying u).isSome&&(P.info? u).isSome)=true){w:World}(c:vM P u=false){v:Value}(hc:cs[off]? =some v):
  (part u cs.toArray off).run P w=.ok v w:=by
 simp only[bj,gj]at a;obtain⟨a,i,hi⟩:=a;have b:cs.toArray[off]? =some v:=by simpa using hc
 simp only[part,aZ,vL hi a,aC,c,cJ,if_false,b,bV]
theorem zh{h:ad}:∀{l m:List (Option Addr×Option Addr)},rH h (l++m)→rH h l∧rH h m
 | [],_,h=>⟨trivial,h⟩
 |(_,_)::_,_,h=>⟨⟨h.1,(zh h.2).1⟩,(zh h.2).2⟩
theorem L7{t:TypeId}{x y:Value}{b:Bool}{l:List (Option Addr×Option Addr)}(f:Tg P t x y=some (b,l)){w:World}(m:rH w.heap l)(d:Nat):
  (fg (d+1) t x y).run P w=.ok b w:=by
 unfold Tg at f;split at f
 ·rename_i k0 k a k' c hu
  cases hk:JM k' k with
  |false=>rw[hk]at f;cases f
  |true=>
   rw[hk]at f;have:=AA hk;subst this;cases f;exact run_equalIn_int w d t _ _ _ _ hu
 ·rename_i a c hu
  cases f;exact run_equalIn_bool w d t _ _ hu
 ·rename_i a c hu
  cases f;exact run_equalIn_string w d t _ _ hu
 ·rename_i e a c hu
  cases hz:aJ (cq P e) 0 with
  |true=>rw[hz]at f;cases f
  |false=>
   rw[hz]at f;cases f;have g:cq P e≠0:=fun e=>by rw[e]at hz;cases hz
   simp only[fg,aZ,aB hu,aC];cases a with
   |none=>cases c<;>rfl
   |some a=>cases c with
    |none=>rfl
    |some c=>
     obtain⟨i,j⟩:=m.1 a c rfl rfl;simp only[aZ,y5 hz,aC,ne_eq,g,not_false_eq_true,if_true,wS i j];rfl
 ·cases f
theorem FM{rec:TypeId→List Value→List Value→Option (Bool×List (Option Addr×Option Addr))}{d:Nat}{xs ys:List Value}{w:World}
  (e:∀t us vs b l,rec t us vs=some (b,l)→rH w.heap l→(fg (d+1) t (.agg us.toArray) (.agg vs.toArray)).run P w=.ok b w):
  ∀(fs:List Field) (b:Bool) (l:List (Option Addr×Option Addr)),Vc P rec xs ys fs=some (b,l)→rH w.heap l→(Op.eqFields (d+1) xs.toArray ys.toArray fs).run P w=.ok b w
 | [],b,l,he,_=>by cases he;rfl
 |f::fs,b,l,he,hp=>by
  unfold Vc at he;split at he
  ·cases he
  ·rename_i hn
   cases hi:((P.underlying f.type).isSome&&(P.info? f.type).isSome)with
   |false=>rw[hi]at he;cases he
   |true=>
    rw[hi]at he;simp only[cond_true]at he;split at he
    ·rename_i b1 l1 c m e1 e2
     cases he;obtain⟨g,o⟩:=zh hp;have a:=FM e fs c m e2 o;have k:∃u v,(part f.type xs.toArray f.offset).run P w=.ok u w∧(part f.type ys.toArray f.offset).run P w=.ok v w∧(fg (d+1) f.type u v).run P w=.ok b1 w:=by
      cases ha:vM P f.type with
      |true=>
       rw[ha]at e1;exact⟨_,_,LA hi ha,LA hi ha,e _ _ _ _ _ e1 g⟩
      |false=>
       rw[ha]at e1;simp only[cond_false]at e1;split at e1
       ·rename_i x y hx hy
        exact⟨x,y,HK hi ha hx,HK hi ha hy,L7 e1 g d⟩
       ·cases e1
     obtain⟨u,v,i,n,j⟩:=k;simp only[Op.eqFields,ne_eq,hn,not_false_eq_true,if_true,aZ,i,n,j,aC];cases b1
     ·rfl
     ·exact a
    ·cases he
theorem zt{w:World}:∀(m:Nat) (t:TypeId) (xs ys:List Value) (b:Bool) (l:List (Option Addr×Option Addr)),Th P m t xs ys=some (b,l)→rH w.heap l→
  ∀d,(fg (d+m+1) t (.agg xs.toArray) (.agg ys.toArray)).run P w=.ok b w
 |0,_,_,_,_,_,he,_,_=>by cases he
 |m+1,t,xs,ys,b,l,he,hp,d=>by
  unfold Th at he;split at he
  ·rename_i fs hu
   cases hs:P.stoodInHeld t with
   |true=>rw[hs]at he;cases he
   |false=>
    rw[hs]at he;have a:P.fieldsOf t=fs:=by simp[Program.fieldsOf,hu]
    rw[run_equalIn_struct w _ t _ _ (by rw[a];exact hu) hs,a];exact FM (d:=d+m) (fun t c vs b l f e=>zt m t c vs b l f e d) fs.toList b l he hp
  ·cases he
theorem Ij{neg b:Bool}{K:RK}{h:ad}{l:List (Option Addr×Option Addr)}(a:YL neg b K h l):∃S,K (.bool (bif neg then !b else b)) S∧Uc S h∧∀h',Uc S h'→rH h' l:=by
 cases l with
 |nil=>exact⟨none,a,trivial,fun _ _=>trivial⟩
 |cons p l=>exact⟨_,a.2,a.1,fun _ h=>h⟩
theorem Nv{c:BinOp}{t:TypeId}{xs ys:Array Value}{x y:Operand}{K:RK}{h:ad}(a:Wd P c t xs.toList ys.toList K h):
  ∃v S,K v S∧Uc S h∧∀w:World,Uc S w.heap→(do eqGuard c t x y (.agg xs) (.agg ys);binOp c t (.agg xs) (.agg ys):Sem Value).run P w=.ok v w:=by
 unfold Wd at a;cases hg:P.eqGuardType P.depth t with
 |true=>rw[hg]at a;exact a.elim
 |false=>
  rw[hg]at a;simp only[cond_false]at a;split at a
  ·split at a
   ·rename_i b l he
    obtain⟨S,d,g,e⟩:=Ij a;refine⟨_,S,d,g,fun w f=>?_⟩
    have:=zt 10 t _ _ b l he (e _ f) 9989;simp only[Array.toArray_toList]at this;simp only[aZ,run_eqGuard_agg w _ t x y _ _ hg,aC,run_eql_struct,this];rfl
   ·exact a.elim
  ·split at a
   ·rename_i b l he
    obtain⟨S,d,g,e⟩:=Ij a;refine⟨_,S,d,g,fun w f=>?_⟩
    have:=zt 10 t _ _ b l he (e _ f) 9989;simp only[Array.toArray_toList]at this;simp only[aZ,run_eqGuard_agg w _ t x y _ _ hg,aC,run_neq_struct,this];rfl
   ·exact a.elim
  ·exact a.elim
theorem Qg{a:UnOp}{x:Value}{K:RK}{h:ad}(hv:Ys a x K):Yv P (Op.unary a x) K h:=by
 unfold Ys at hv;split at hv
 ·exact .of_pure hv fun w=>rfl
 ·exact .of_pure hv fun w=>rfl
 ·exact .of_pure hv fun w=>rfl
 ·exact hv.elim
theorem F1:∀(l:List UInt8) (s:ByteArray),(l.map fun b=>((b.toNat:Nat):Int)).foldl (fun r n=>r.push (uf n.toNat)) s=⟨s.data++l.toArray⟩
 | [],s=>by simp
 |b::l,s=>by
  simp only[bX,List.foldl_cons];rw[F1 l];congr 1
  have:uf ((b.toNat:Nat):Int).toNat=b:=by simp
  rw[this];apply cM;simp[ByteArray.push]
theorem Fx{e:TypeId}(h:NQ P e=true):P.underlying e=some (.int .u8):=by
 unfold NQ at h;split at h
 ·assumption
 ·cases h
theorem Lg{w:World}{a:Addr}{vs:List Value}(b:Row w.heap a vs):(loadCells a vs.length).run P w=.ok vs.toArray w:=by
 have:=run_firstCells_some (P:=P) w 1 vs.length a 0 0 vs (by simp) fun j v hv=>by rw[←un];exact b j v hv
 simpa[dW]using this
theorem Lp{f g:TypeId}{x:Value}{K:RK}{h:ad}(hv:Sg P f g x K h):Yv P (convert f g x) K h:=by
 unfold Sg at hv;split at hv
 ·rename_i k k' k'' n h1 h2
  exact .of_pure hv fun w=>by simp only[convert,aZ,aB h1,aB h2,aC];rfl
 ·rename_i s h1 h2
  exact .of_pure hv fun w=>by simp only[convert,aZ,aB h1,aB h2,aC];rfl
 ·rename_i e a n c h1 h2
  cases hu:NQ P e with
  |false=>rw[hu]at hv;exact hv.elim
  |true=>
   rw[hu]at hv;obtain⟨s,q,y⟩:=hv;refine⟨_,_,y,q,fun w m=>?_⟩
   rw[run_convert_bytes_string w f g e a n c h1 (Fx hu) h2];obtain⟨p,m⟩:=m;rcases m with o|⟨b,rfl,t⟩
   ·have j:s=ByteArray.empty:=by
     have:s.data.toList= []:=by simpa[dB]using o
     cases s with
     |mk d=>simp at this;subst this;rfl
    cases a with
    |none=>rw[j];rfl
    |some b=>
     have u:n=0:=by rw[←p,o];rfl
     subst u;have:=Lg (P:=P) (w:=w) (a:=b) (vs:= []) fun i v hv=>by simp at hv
     rw[run_bytesToString w b 0 c [] (by simpa using this),j];rfl
   ·have:=Lg (P:=P) t
    rw[p]at this;rw[run_bytesToString w b n c (s.data.toList.map fun b=>((b.toNat:Nat):Int)) (by rw[this,hE];rfl),F1]
    cases s;simp[ByteArray.empty,ByteArray.emptyWithCapacity];try rfl
 ·exact hv.elim
theorem NA{u:TypeId}{cs:Array Value}{off:Nat}{K:RK}{h:ad}(b:∃d,P.underlying u=some d)(hi:∃i,P.info? u=some i)
  (hv:bif vM P u then K (.agg ((cs.toList.drop off).take (cq P u)).toArray) none else(match cs.toList[off]? with|some v=>K v none|none=>False)):Yv P (part u cs off) K h:=by
 obtain⟨i,hi⟩:=hi;cases ha:vM P u with
 |true=>
  rw[ha]at hv;refine .of_pure hv fun w=>?_
  have c:(sizeOf u).run P w=.ok (cq P u) w:=by simp[sizeOf,cN hi,cq,hi]
  simp only[part,aZ,vL hi b,aC,ha,if_true,c,bV];congr 2
  apply cM;simp[fK]
 |false=>
  rw[ha]at hv;simp only[cond_false]at hv;cases hc:cs.toList[off]? with
  |none=>rw[hc]at hv;exact hv.elim
  |some v=>
   rw[hc]at hv;refine .of_pure hv fun w=>?_
   have a:cs[off]? =some v:=by simpa using hc
   simp only[part,aZ,vL hi b,aC,ha,cJ,if_false,a,bV]
def wF(P:Program)(v:Option Value)(d y n:Nat):Prop:=
 match v with
 |some x=>∀c w,(Instr.sliceBound x y c).run P w=.ok n w
 |none=>n=d
theorem l4{v:Option Value}{d y:Nat}{K:Nat→Prop}(hv:TC v d y K):∃n,K n∧wF P v d y n:=by
 unfold TC at hv;split at hv
 ·exact⟨d,hv,rfl⟩
 ·rename_i k i
  obtain⟨⟨a,e⟩,b⟩:=hv;refine⟨i.toNat,b,fun c w=>?_⟩
  simp[Instr.sliceBound,asIntOf,a,e]
 ·exact hv.elim
theorem pd{c:Bool}{len cap n l:Nat}{lo hi:Option Value}(b:wF P hi len cap n)(a:wF P lo 0 n l)(w:World):
  (fq c len cap lo hi none).run P w=.ok (l,n,cap) w:=by
 cases hi with
 |none=>
  cases lo with
  |none=>simp only[wF]at b a;subst b;subst a;simp[fq]
  |some lo=>simp only[wF]at b a;subst b;simp[fq,a]
 |some hi=>
  cases lo with
  |none=>simp only[wF]at b a;subst a;simp[fq,b]
  |some lo=>simp only[wF]at b a;simp[fq,b,a]
theorem BL{c:Bool}{len cap n l m:Nat}{lo:Option Value}{hi d:Value}(hm:wF P (some d) 0 cap m)(b:wF P (some hi) 0 m n)(a:wF P lo 0 n l)(w:World):
  (fq c len cap lo (some hi) (some d)).run P w=.ok (l,n,m) w:=by
 cases lo with
 |none=>simp only[wF]at hm b a;subst a;simp[fq,hm,b]
 |some lo=>simp only[wF]at hm b a;simp[fq,hm,b,a]
theorem yX(a:Option Addr)(l m size:Nat):(if m=l then a else a.map (·.add (l*size)))=aV a l m size:=by
 unfold aV;split
 ·rfl
 ·congr 1;funext x;rw[un]
theorem pg{t:TypeId}{K:Prop}(h:Sw P t K):K∧∀w,(sizeOf t).run P w=.ok (cq P t) w:=by
 unfold Sw at h;cases hi:P.info? t with
 |none=>rw[hi]at h;exact h.elim
 |some i=>rw[hi]at h;exact⟨h,fun w=>by simp[sizeOf,cN hi,cq,hi]⟩
theorem Jw{t:TypeId}{x:Value}{f:Nat}{K:RK}{h:ad}(hv:Nt P t x f K):Yv P (Instr.field t x f) K h:=by
 unfold Nt at hv;split at hv
 ·rename_i u off cs hf
  obtain⟨j,g,d,i,rfl,rfl⟩:=xk hf;cases hb:((P.underlying g.type).isSome&&(P.info? g.type).isSome)with
  |false=>rw[hb]at hv;exact hv.elim
  |true=>
   rw[hb]at hv;simp only[bj,gj]at hb;obtain⟨v,S,b,c,a⟩:=NA (cs:=cs) (off:=g.offset) (h:=h) hb.1 hb.2 hv;refine⟨v,S,b,c,fun w e=>?_⟩
   have:=a w e;simp only[Instr.field,aZ,aB d,aC,i,asAgg,bV,this]
 ·exact hv.elim
theorem BV{t:TypeId}{x i:Value}{K:RK}{h:ad}(hv:za P t x i K):Yv P (Instr.indexAt t x i) K h:=by
 unfold za at hv;split at hv
 ·rename_i n e a k i hu
  obtain⟨⟨⟨c,g⟩,f⟩,d⟩:=pg hv;refine .of_pure f fun w=>?_
  simp[Instr.indexAt,asIntOf,aB hu,lP,c,g,d,un]
 ·rename_i e b len cap k i hu
  obtain⟨⟨⟨c,g⟩,a,rfl,f⟩,d⟩:=pg hv;refine .of_pure f fun w=>?_
  simp[Instr.indexAt,asIntOf,aB hu,c,g,d,un]
 ·exact hv.elim
theorem Jt{ats:Array TypeId}{ty:TypeId}{v:Value}{K:RK}(h:Nq v K):∃u,K u none∧∀w,(Builtin.unsafeSliceData_ ats ty #[v]).run P w=.ok u w:=by
 unfold Nq at h;split at h
 ·rename_i a n c
  obtain⟨d,b⟩:=h;cases a with
  |none=>exact⟨_,b,fun w=>Lib.run_unsafeSliceData_nil ..⟩
  |some a=>exact⟨_,b,fun w=>Lib.run_unsafeSliceData_row _ _ _ _ _ _ (d.resolve_left nofun)⟩
 ·exact h.elim
theorem Jv{t:TypeId}{x i:Value}{K:RK}{h:ad}(hv:Ns P t x i K):Yv P (Instr.index t x i) K h:=by
 unfold Ns at hv;split at hv
 ·rename_i s k i hu
  obtain⟨b,a,hb,c⟩:=hv;refine .of_pure c fun w=>?_
  simp[Instr.index,asIntOf,aB hu,a,hb]
 ·exact hv.elim
theorem Js{t:TypeId}{x:Value}{lo hi d:Option Value}{K:RK}{h:ad}(hv:Np P t x lo hi d K):Yv P (pM t x lo hi d) K h:=by
 unfold Np at hv;split at hv
 ·rename_i s hu
  cases d with
  |some _=>exact hv.elim
  |none=>
   obtain⟨n,hv,b⟩:=l4 (P:=P) hv;obtain⟨l,hv,c⟩:=l4 (P:=P) hv;refine .of_pure hv fun w=>?_
   simp[pM,Instr.slice,aB hu,pd b c]
 ·rename_i e a len cap hu
  obtain⟨hv,f⟩:=pg hv;cases d with
  |none=>
   obtain⟨n,hv,b⟩:=l4 (P:=P) hv;obtain⟨l,hv,c⟩:=l4 (P:=P) hv;refine .of_pure hv fun w=>?_
   simp[pM,Instr.slice,aB hu,pd b c,f,yX]
  |some m=>
   cases hi with
   |none=>exact hv.elim
   |some hi=>
    obtain⟨i,hv,hm⟩:=l4 (P:=P) hv;obtain⟨n,hv,b⟩:=l4 (P:=P) hv;obtain⟨l,hv,c⟩:=l4 (P:=P) hv;refine .of_pure hv fun w=>?_
    simp[pM,Instr.slice,aB hu,BL hm b c,f,yX]
 ·rename_i n e a hu
  obtain⟨hv,f⟩:=pg hv;cases d with
  |some _=>exact hv.elim
  |none=>
   obtain⟨m,hv,b⟩:=l4 (P:=P) hv;obtain⟨l,hv,c⟩:=l4 (P:=P) hv;refine .of_pure hv fun w=>?_
   have g:(some (if n=l then a else a.add (l*cq P e)))=aV (some a) l n (cq P e):=by
    rw[←yX];split<;>rfl
   simp[pM,aB hu,lP,pd b c,f,g]
 ·exact hv.elim
def ou(d:TypeDesc)(c:CK):Prop:=(∃i,d=.int i∧c=.int i)∨(d=.string∧c=.str)∨(d=.bool∧c=.bool)
theorem xb{t:TypeId}{c:CK}{e:TypeId}(h:LQ P t=some (c,e)):∃k d,P.underlying t=some (.map k e)∧P.underlying k=some d∧ou d c:=by
 unfold LQ at h;split at h
 ·rename_i k e' hu
  split at h
  ·rename_i i hk
   simp only[bK.injEq,pK.injEq]at h;obtain⟨rfl,rfl⟩:=h;exact⟨k,_,hu,hk,.inl ⟨i,rfl,rfl⟩⟩
  ·rename_i hk
   simp only[bK.injEq,pK.injEq]at h;obtain⟨rfl,rfl⟩:=h;exact⟨k,_,hu,hk,.inr (.inl ⟨rfl,rfl⟩)⟩
  ·rename_i hk
   simp only[bK.injEq,pK.injEq]at h;obtain⟨rfl,rfl⟩:=h;exact⟨k,_,hu,hk,.inr (.inr ⟨rfl,rfl⟩)⟩
  ·cases h
 ·cases h
theorem CF{d:TypeDesc}{c:CK}(hd:ou d c)(x y:c.den):uu d (c.enc x) (c.enc y)=some (fa (c.enc x) (c.enc y)):=by
 rcases hd with⟨i,rfl,rfl⟩|⟨rfl,rfl⟩|⟨rfl,rfl⟩
 ·simp[uu,CK.enc,fa]
 ·simp[uu,CK.enc,fa]
 ·simp[uu,CK.enc,fa]
theorem CX{d:TypeDesc}{c:CK}(hd:ou d c)(x:c.den):∀(es:List MapEntry) (i:Nat),keysOf c es→
  ∃r,mX d (c.enc x) es i=some r∧r.map (·.2)=FH (c.enc x) es
 | [],i,_=>⟨none,rfl,rfl⟩
 |e::es,i,h=>by
  obtain⟨y,g⟩:=h e (by simp);have a:=CF hd x y;rw[←g]at a;simp only[mX,FH];cases hb:fa (c.enc x) e.key with
  |true=>rw[a,hb];exact⟨some (i,e.val),rfl,rfl⟩
  |false=>rw[a,hb];exact CX hd x es (i+1) fun f b=>h f (by simp[b])
theorem Mg{a:Bool}{k:TypeId}{d:TypeDesc}{c:CK}(hd:ou d c)(b:P.underlying k=some d)(v:Value)(n:Nat)(w:World):(Instr.checkKey a (n+1) k v).run P w=.ok () w:=by
 unfold Instr.checkKey;simp only[aZ,aB b,aC];rcases hd with⟨i,rfl,rfl⟩|⟨rfl,rfl⟩|⟨rfl,rfl⟩<;>rfl
theorem vI{k:TypeId}{d:TypeDesc}{c:CK}(hd:ou d c)(b:P.underlying k=some d)(x:c.den){es:List MapEntry}(h:keysOf c es)(w:World):
  ∃r,(Instr.findKey k (c.enc x) es).run P w=.ok r w∧mX d (c.enc x) es 0=some r∧r.map (·.2)=FH (c.enc x) es:=by
 obtain⟨r,a,hm⟩:=CX hd x es 0 h;refine⟨r,?_,a,hm⟩;simp only[Instr.findKey,aZ,aB b,aC,a,bV]
theorem lj{w:World}{r:Nat}{es:Array MapEntry}{a:Nat}(h:w.heap[r]? =some (.map es a)):(getObj r).run P w=.ok (.map es a) w:=by
 simp only[getObj,mg,h]
theorem mM{a:Bool}{k:TypeId}{d:TypeDesc}{c:CK}(hd:ou d c)(b:P.underlying k=some d)(v:Value)(w:World):(Instr.checkKey a 10000 k v).run P w=.ok () w:=
 Mg hd b v 9999 w
theorem NK{t:TypeId}{c:CK}{e k:TypeId}{d:TypeDesc}(o:P.underlying t=some (.map k e))(f:P.underlying k=some d)(hd:ou d c){m:Option Nat}{x:c.den}{z v:Value}{b ok:Bool}{w:World}
  (p:(zeroValue e).run P w=.ok z w)(hm:jv c z w.heap m (c.enc x) v b):
  (vW t (.map m) (c.enc x) ok).run P w=.ok (bif ok then .tuple #[v,.bool b]else v) w:=by
 cases m with
 |none=>
  obtain⟨rfl,rfl⟩:=hm;simp only[vW,aZ,aB o,aC,bV,mM hd f];obtain⟨r,i,n,a⟩:=vI (P:=P) hd f x (es:= []) (fun _ h=>by cases h) w
  simp only[mX,bK.injEq]at n;subst n;simp[i,p]
 |some r=>
  obtain⟨es,j,hb,g,hv⟩:=hm;simp only[vW,aZ,aB o,aC,lj hb,bV,mM hd f];obtain⟨r,i,n,a⟩:=vI (P:=P) hd f x g w;simp only[i,aC];cases r with
  |none=>
   simp only[Option.map_none]at a;rw[←a]at hv;obtain⟨rfl,rfl⟩:=hv;simp[p]
  |some r=>
   simp only[np]at a;rw[←a]at hv;obtain⟨rfl,rfl⟩:=hv;cases ok<;>rfl
theorem dX{e:TypeId}{z:Value}(h:yp P e=some z)(w:World):(zeroValue e).run P w=.ok z w:=by
 unfold yp at h;cases hi:P.info? e with
 |none=>rw[hi]at h;cases h
 |some i=>rw[hi]at h;simp only at h;simp[zeroValue,cN hi,h]
theorem GX{t:TypeId}{x k:Value}{ok:Bool}{K:RK}{h:ad}(hv:Ju P t x k ok K h):Yv P (vW t x k ok) K h:=by
 unfold Ju at hv;split at hv
 ·rename_i c e m hc
  obtain⟨j,d,i,a,hd⟩:=xb hc;obtain⟨n,rfl,hv⟩:=CK.dec_sound hv;split at hv
  ·rename_i ek z hek hz
   obtain⟨y,b,hm,f⟩:=hv;exact⟨_,_,f,hm,fun w g=>NK i a hd (dX hz w) g⟩
  ·exact hv.elim
 ·exact hv.elim
theorem CI{w:World}{b cap s q:Nat}{a:Array Value}{c t:Bool}(h:w.heap[b]? =some (.chan cap a c s q t)):(getObj b).run P w=.ok (.chan cap a c s q t) w:=by
 simp only[getObj,mg,h]
theorem Nr{t:TypeId}{x:Value}{ats:Array TypeId}{ty:TypeId}{K:RK}{h:ad}(a:ats[0]? =some t) (hv:Wb P t x K h):Yv P (jW ats ty #[x]) K h:=by
 unfold Wb at hv;split at hv
 ·rename_i s hu
  exact .of_pure hv fun w=>by simp[jW,a,aB hu,goInt]
 ·rename_i n e _ hu
  exact .of_pure hv fun w=>by simp[jW,a,aB hu,goInt]
 ·rename_i e b n c hu
  exact .of_pure hv fun w=>by simp[jW,a,aB hu,goInt]
 ·rename_i k e m hu
  obtain⟨n,hm,f⟩:=hv;refine⟨_,_,f,hm,fun w d=>?_⟩
  cases m with
  |none=>
   have:n=0:=d;subst this;simp[jW,a,aB hu,goInt]
  |some r=>
   obtain⟨es,g,hb,rfl⟩:=d;simp[jW,a,aB hu,goInt,lj hb]
 ·rename_i k e m hu
  obtain⟨n,hm,f⟩:=hv;refine⟨_,_,f,hm,fun w d=>?_⟩
  cases m with
  |none=>
   have:n=0:=d;subst this;simp[jW,a,aB hu,goInt]
  |some r=>
   obtain⟨cap,i,j,s,q,hb,rfl⟩:=d;simp[jW,a,aB hu,goInt,CI hb]
 ·exact hv.elim
theorem Nu{t:TypeId}{x:Value}{ats:Array TypeId}{ty:TypeId}{K:RK}{h:ad}(a:ats[0]? =some t) (hv:Wc P t x K h):Yv P (vY ats ty #[x]) K h:=by
 unfold Wc at hv;split at hv
 ·rename_i e b n c hu
  exact .of_pure hv fun w=>by simp[vY,a,aB hu,goInt]
 ·rename_i k e m hu
  obtain⟨n,hm,f⟩:=hv;refine⟨_,_,f,hm,fun w d=>?_⟩
  cases m with
  |none=>
   have:n=0:=d;subst this;simp[vY,a,aB hu,goInt]
  |some r=>
   obtain⟨cap,g,i,s,q,hb,rfl⟩:=d;simp[vY,a,aB hu,goInt,CI hb]
 ·exact hv.elim
theorem Ar{c:Bool}{k:IntKind}:∀{vs:List Value} {a:Int} {f:Value→Prop},JF c k a vs f→∃v,f v∧∀w,(vs.foldlM (bif c then Builtin.max2 else Builtin.min2) (Value.int k a):Sem Value).run P w=.ok v w
 | [],a,f,h=>⟨_,h,fun w=>by simp⟩
 | .int k' b::vs,a,f,h=>by
  simp only[JF]at h;cases hk:JM k' k with
  |false=>rw[hk]at h;exact h.elim
  |true=>
   rw[hk]at h;have:=AA hk;subst this;obtain⟨v,d,e⟩:=Ar h;refine⟨v,d,fun w=>?_⟩
   rw[←e w];cases c<;>simp[List.foldlM_cons,Builtin.max2,Builtin.min2]
theorem yy{a:Bool}{vs:List Value}{f:Value→Prop}{ats:Array TypeId}{ty:TypeId}(h:El a vs f):∃v,f v∧∀w,(bif a then Builtin.max_ ats ty vs.toArray else Builtin.min_ ats ty vs.toArray).run P w=.ok v w:=by
 unfold El at h;split at h
 ·obtain⟨v,c,b⟩:=Ar (P:=P) h
  refine⟨v,c,fun w=>?_⟩
  have:=b w;cases a<;>simpa[Builtin.max_,Builtin.min_]using this
 ·exact h.elim
theorem QL{a:Addr}{e:MapEntry}{w:World}(g:a.off=0)(h:vO w.heap a.block e):(Instr.entry (.pointer (some a))).run P w=.ok (.tuple #[e.key,e.val]) w:=by
 obtain⟨m,c,d,last,f,es,hi,hb,hm,j⟩:=h;obtain⟨b,off,i⟩:=a;simp only at g hi;subst g;have k:(getObj b).run P w=.ok (.mapIter (some m) c d last) w:=by simp only[getObj,mg,hi]
 simp[Instr.entry,k,hb,lj hm,j]
def Hj:DV→Value→Prop
 | .t,v=>v=.bool true
 | .f,v=>v=.bool false
 | .u,v=>v=undef
 | .x,_=>True
def DecOk(d:vn)(r:cG):Prop:=∀t,qE d t=.x∨∃v,jF r t=some v∧Hj (qE d t) v
theorem DecOk.at{d:vn}{r:cG}(h:DecOk d r){t:Nat}{v:Value}(hv:jF r t=some v):Hj (qE d t) v:=by
 rcases h t with e|⟨u,a,b⟩
 ·rw[e];trivial
 ·rw[hv]at a;cases a;exact b
theorem uJ{d:vn}{r:cG}(hd:DecOk d r){o:Operand}{v:Value}(h:cR r o=some v):Hj (AI d o) v:=by
 cases o with
 |tmp t=>exact hd.at h
 |const c=>
  simp[cR]at h;subst h;cases c with
  |bool b=>cases b<;>exact rfl
  |_=>trivial
 |global g=>trivial
 |func f=>trivial
theorem CP{t:TypeId}(h:pT P t=true):∃d,P.underlying t=some d∧∀m,d≠ .interface m:=by
 unfold pT at h;split at h
 ·cases h
 ·rename_i d hd;exact⟨_,hd,fun m e=>by subst e;simp_all⟩
 ·cases h
theorem Av{t:TypeId}{v:Value}(h:pT P t=true)(w:World):(Instr.makeInterface t v).run P w=.ok (.iface t v) w:=by
 obtain⟨d,hd,a⟩:=CP h;simp only[Instr.makeInterface,aZ,aB hd,aC];cases d<;>first|exact absurd rfl (a _)|rfl
theorem EN{t u:TypeId}{v:Value}(h:pT P t=true)(w:World):(Instr.typeAssert (.iface t v) u t false).run P w=.ok v w:=by
 obtain⟨d,hd,a⟩:=CP h;simp only[Instr.typeAssert,aZ,aB hd,aC];cases d<;>first|exact absurd rfl (a _)|(simp[bV])
theorem jE{t:TypeId}{z:List Value}(h:qm P t=some z):∃v,yp P t=some v∧v.cells.toList=z:=by
 unfold qm at h;cases hz:yp P t with
 |none=>rw[hz]at h;cases h
 |some v=>rw[hz]at h;simp only[bK.injEq]at h;exact⟨v,rfl,h⟩
theorem qY{t:TypeId}{v:Value}(h:yp P t=some v):∃i,P.info? t=some i∧i.zero=some v:=by
 unfold yp at h;cases hi:P.info? t with
 |none=>rw[hi]at h;cases h
 |some i=>rw[hi]at h;exact⟨i,rfl,h⟩
theorem Tk{A B:List Value}{x:Value}{m:Nat}(h:A.length=m):(A++x::B).take (m+1)=A++ [x]:=by
 subst h;rw[List.take_append,aS (by omega),show A.length+1-A.length=1 by omega];rfl
theorem Tn{A B:List Value}{x:Value}{m n:Nat}(h:A.length=m):(A++x::B).drop (m+1+n)=B.drop n:=by
 subst h;rw[List.drop_append,List.drop_eq_nil_of_le (by omega),show A.length+1+n-A.length=n+1 by omega];rfl
theorem L4(off:Nat):∀(xs:List Value) (k:Nat) (arr:Array Value),off+k+xs.length≤arr.size→
  (xs.zipIdx k).foldl (fun cs (c,j)=>cs.setIfInBounds (off+j) c) arr=(Lv arr.toList (off+k) xs).toArray
 | [],k,arr,_=>by simp[Lv]
 |x::xs,k,arr,h=>by
  simp only[au]at h;simp only[List.zipIdx_cons,List.foldl_cons];rw[L4 off xs (k+1) _ (by simp;omega)];have hm:off+k<arr.toList.length:=by simp;omega
  have b:arr.toList.set (off+k) x=arr.toList.take (off+k)++x::arr.toList.drop (off+k+1):=by
   rw[List.set_eq_take_append_cons_drop,if_pos hm]
  have a:(arr.toList.take (off+k)).length=off+k:=by simp;omega
  congr 1
  unfold Lv;rw[Array.toList_setIfInBounds,b,←Nat.add_assoc,Tk a,Tn a];simp only[List.append_assoc,dz,List.nil_append,au,List.drop_drop];rw[show off+k+1+xs.length=off+k+(xs.length+1) by omega]
theorem tu{a:Nat→Option (Nat×Nat)}:∀(parts:List (Nat×Value)) (cs cs':List Value),CY a cs parts=some cs'→Instr.fill a cs.toArray parts=some cs'.toArray
 | [],cs,cs',h=>by simp only[CY,bK.injEq]at h;subst h;rfl
 |(i,v)::rest,cs,cs',h=>by
  simp only[CY]at h;cases hp:a i with
  |none=>rw[hp]at h;cases h
  |some os=>
   obtain⟨off,size⟩:=os;rw[hp]at h;simp only at h;cases hb:(aJ v.cells.toList.length size&&vU (off+v.cells.toList.length) cs.length)with
   |false=>rw[hb]at h;cases h
   |true=>
    rw[hb]at h;simp only[bj]at hb;have c:=bo hb.1;have g:=fV hb.2;have b:=tu rest _ _ h;have e:v.cells.size=size:=by simpa using c
    have f:off+v.cells.size≤cs.length:=by simpa using g
    have d:Array.foldl (fun cs x=>cs.setIfInBounds (off+x.2) x.1) cs.toArray v.cells.zipIdx=(Lv cs off v.cells.toList).toArray:=by
     have:=L4 off v.cells.toList 0 cs.toArray (by simpa using f);simp only[gZ]at this;rw[←this,←Array.foldl_toList];congr 1
     simp[Array.toList_zipIdx]
    simp only[Instr.fill,hp];rw[if_neg (by simp[e];omega)];simp only[d];exact b
theorem ol{N:Nat}{r:cG}{a:Act}(h:Agree N r a):∀{ps:List (Nat×Operand)} {vs:List (Nat×Value)},pS r ps=some vs→ps.map (fun p=>(p.1,a.eval p.2))=vs
 | [],vs,hv=>by simp[pS]at hv;subst hv;rfl
 |(i,o)::ps,vs,hv=>by
  simp only[pS]at hv;cases ho:cR r o with
  |none=>simp[ho]at hv
  |some v=>cases hos:pS r ps with
   |none=>simp[ho,hos]at hv
   |some us=>simp[ho,hos]at hv;subst hv;simp[jG h ho,ol h hos]
theorem pY{t:TypeId}(h:xZ P t=true)(w:World):(sizeOf t).run P w=.ok (cq P t) w:=by
 unfold xZ at h;cases hi:P.info? t with
 |none=>rw[hi]at h;cases h
 |some i=>simp[sizeOf,cN hi,cq,hi]
theorem Fa(w:World):∀l:List Field,AP P l=true→(l.mapM fun f:Field=>((do pure (f.offset,←sizeOf f.type)):Sem (Nat×Nat))).run P w=.ok (l.map fun f:Field=>(f.offset,cq P f.type)) w
 | [],_=>rfl
 |f::l,h=>by
  simp only[AP]at h;cases hf:xZ P f.type with
  |false=>rw[hf]at h;cases h
  |true=>
   rw[hf]at h;rw[List.mapM_cons];simp only[aZ,pY hf,aC,bV,Fa w l h,bX]
theorem AN{t:TypeId}{ps:Array (Nat×Value)}{cs:List Value}(hb:Kb P t ps.toList=some cs)(w:World):
  (Instr.build t ps).run P w=.ok (.agg cs.toArray) w:=by
 unfold Kb at hb;split at hb
 ·rename_i fs z hu c
  obtain⟨v,c,hv⟩:=jE c;cases ha:AP P fs.toList with
  |false=>rw[ha]at hb;cases hb
  |true=>
   rw[ha]at hb;have g:(fs.mapM fun f:Field=>((do pure (f.offset,←sizeOf f.type)):Sem (Nat×Nat))).run P w=.ok (fs.map fun f:Field=>(f.offset,cq P f.type)) w:=by
    rw[Array.mapM_eq_mapM_toList];simp only[Sem.run_map,Fa w fs.toList ha,aC];congr 1
    apply cM;simp
   have d:=tu _ _ _ hb;have a:(fun i:Nat=>(fs.map fun f:Field=>(f.offset,cq P f.type))[i]?)=Nz P fs.toList:=by
    funext i;unfold Nz;rw[Array.getElem?_map,bB];cases fs[i]?<;>rfl
   have b:v.cells=z.toArray:=by rw[←hv]
   rw[cond_true]at hb;rw[←a]at d;simp only[Instr.build,aZ,dX c,aC,aB hu,g,b,d,bV]
 ·rename_i n e z hu c
  obtain⟨v,c,hv⟩:=jE c;cases ha:xZ P e with
  |false=>rw[ha]at hb;cases hb
  |true=>
   rw[ha]at hb;have d:=tu _ _ _ hb;have b:v.cells=z.toArray:=by rw[←hv]
   simp only[Instr.build,aZ,dX c,aC,aB hu,pY ha,b,d,bV]
 ·cases hb
theorem BU{ek:Option (Kind×Kind)}{o:Oper}{r:cG}{K:RK}{h:ad}{N:Nat}{a:Act}(Q:Agree N r a)(g:BA P ek o.op r K h)(d:vn)(hd:DecOk d r):
  ∃v S,K v S∧Uc S h∧Hj (Kz d o.op) v∧∀w:World,Uc S w.heap→(execOp a.eval o).run P w=.ok (.value v) w:=by
 have j:∀{x:Operand} {v:Value},cR r x=some v→a.eval x=v:=fun h=>jG Q h
 have fin:∀{s:Sem Value},Yv P s K h→Kz d o.op=.x→(∀w,(execOp a.eval o).run P w=(do pure (Next.value (←s)):Sem Next).run P w)→
   ∃v S,K v S∧Uc S h∧Hj (Kz d o.op) v∧∀w:World,Uc S w.heap→(execOp a.eval o).run P w=.ok (.value v) w:=by
  rintro s ⟨v,S,q,A,z⟩ hx F;exact⟨v,S,q,A,by rw[hx];trivial,fun w B=>by rw[F w];exact im (z w B)⟩
 obtain⟨T,L,type,pos,E,G⟩:=o;simp only at g fin⊢;cases L with
 |move x=>
  simp only[BA]at g;split at g
  ·rename_i v hv
   exact⟨v,none,g,trivial,uJ hd hv,fun w _=>by simp[execOp,j hv]⟩
  ·exact g.elim
 |assign x=>
  simp only[BA]at g;split at g
  ·rename_i v hv
   exact⟨v,none,g,trivial,uJ hd hv,fun w _=>by simp[execOp,j hv]⟩
  ·exact g.elim
 |pick c x y=>
  simp only[BA]at g;split at g
  ·rename_i vc va vb hc hx U
   unfold VH at g;split at g
   ·rename_i cb
    have I:=uJ hd hc;have V:=uJ hd hx;have W:=uJ hd U;have F:∀w,(execOp a.eval ⟨T,.pick c x y,type,pos,E,G⟩).run P w=.ok (.value (if cb then va else vb)) w:=fun w=>by
     simp[execOp,j hc,j hx,j U,asBool]
    have H:Hj (Kz d (.pick c x y)) (if cb then va else vb):=by
     simp only[Kz];cases hcd:AI d c with
     |t=>
      rw[hcd]at I;have:cb=true:=by simpa[Hj]using I
      subst this;exact V
     |f=>
      rw[hcd]at I;have:cb=false:=by simpa[Hj]using I
      subst this;exact W
     |u=>trivial
     |x=>trivial
    split at g
    ·rename_i bx by'
     have O:(if cb=true then Value.bool bx else Value.bool by')=.bool (bif cb then bx else by'):=by cases cb<;>rfl
     rw[O]at H;exact⟨_,none,g,trivial,H,fun w _=>by rw[F w,O]⟩
    ·cases cb
     ·exact⟨_,none,g,trivial,H,fun w _=>F w⟩
     ·exact⟨_,none,g,trivial,H,fun w _=>F w⟩
   ·exact g.elim
  ·exact g.elim
 |load t x=>
  simp only[BA]at g;split at g
  ·rename_i v hv
   obtain⟨u,S,q,A,z⟩:=CL g;exact fin ⟨u,some S,q,A,z⟩ rfl fun w=>by simp only[execOp,j hv]
  ·exact g.elim
 |nilCheck x=>
  simp only[BA]at g;split at g
  ·rename_i p hv
   obtain⟨b,rfl,q⟩:=g;exact⟨_,none,q,trivial,trivial,fun w _=>by simp[execOp,j hv]⟩
  ·exact g.elim
 |binOp L t x y yt=>
  simp only[BA]at g;split at g
  ·rename_i v u hn hv hu
   have go:(∀c d,v=.agg c→u=.agg d→False)∧Yv P (binOp L t v u) K h:=by
    split at g
    ·exact Fg (neg:=false) g
    ·exact Fg (neg:=true) g
    ·exact⟨(zd g).1,(zd g).2.2⟩
   obtain⟨Z,R,S,q,A,z⟩:=go;obtain⟨yc,rfl⟩:=JI hn;refine⟨R,S,q,A,trivial,fun w B=>?_⟩
   simp only[execOp,j hv,j hu];simp[L8 L t x yc v u Z w,z w B]
  ·rename_i v u hn hv hu
   obtain⟨R,S,q,A,z⟩:=Nv (x:=x) (y:=y) g;refine⟨R,S,q,A,trivial,fun w B=>?_⟩
   simp only[execOp,j hv,j hu];exact im (z w B)
  ·rename_i v u hna hn hv hu
   obtain⟨Z,h2,R,S,q,A,z⟩:=zd g;refine⟨R,S,q,A,trivial,fun w B=>?_⟩
   simp only[execOp,j hv,j hu];simp[N6 L t x y v u Z h2 w,z w B]
  ·exact g.elim
 |unOp L t x=>
  simp only[BA]at g;split at g
  ·rename_i v hv
   obtain⟨u,S,q,A,z⟩:=Qg (P:=P) (h:=h) g;refine⟨u,S,q,A,?_,fun w B=>by simp only[execOp,j hv];exact im (z w B)⟩
   have J:=uJ hd hv;cases L<;>try trivial
   simp only[Kz];have D:=z {(default:World)with heap:=h} A;cases hx:AI d x with
   |t=>
    rw[hx]at J;have:v=.bool true:=J;subst this;simp[Op.unary]at D;exact D.symm
   |f=>
    rw[hx]at J;have:v=.bool false:=J;subst this;simp[Op.unary]at D;exact D.symm
   |u=>trivial
   |x=>trivial
  ·exact g.elim
 |convert s t x=>
  simp only[BA]at g;split at g
  ·rename_i v hv
   exact fin (Lp g) rfl fun w=>by simp only[execOp,j hv]
  ·exact g.elim
 |extract x i=>
  simp only[BA]at g;split at g
  ·rename_i vs hv
   split at g
   ·rename_i u hu
    have X:vs[i]? =some u:=by simpa using hu
    exact⟨u,none,g,trivial,trivial,fun w _=>by simp[execOp,j hv,Instr.extract,X]⟩
   ·exact g.elim
  ·exact g.elim
 |fieldAddr t x f=>
  simp only[BA]at g;split at g
  ·rename_i b u off hv hf
   exact fin (DS hf g) rfl fun w=>by simp only[execOp,j hv]
  ·exact g.elim
 |field t x f=>
  simp only[BA]at g;split at g
  ·rename_i v hv
   exact fin (Jw g) rfl fun w=>by simp only[execOp,j hv]
  ·exact g.elim
 |indexAddr t x i=>
  simp only[BA]at g;split at g
  ·rename_i v u hv hu
   exact fin (BV g) rfl fun w=>by simp only[execOp,j hv,j hu]
  ·exact g.elim
 |index t x i=>
  simp only[BA]at g;split at g
  ·rename_i v u hv hu
   exact fin (Jv g) rfl fun w=>by simp only[execOp,j hv,j hu]
  ·exact g.elim
 |slice t x lo hi mx=>
  simp only[BA]at g;split at g
  ·rename_i v l h' m hv hl hh hm
   have Y:∀{x:Option Operand} {v:Option Value},HN r x=some v→x.map a.eval=v:=by
    intro x v hx;cases x with
    |none=>simp[HN]at hx;subst hx;rfl
    |some x=>
     simp only[HN]at hx;cases F:cR r x with
     |none=>simp[F]at hx
     |some u=>simp[F]at hx;subst hx;simp[j F]
   exact fin (Js g) rfl fun w=>by simp only[execOp,j hv,Y hl,Y hh,Y hm]
  ·exact g.elim
 |lookup t x k ok=>
  simp only[BA]at g;split at g
  ·rename_i v u hv hu
   exact fin (GX g) rfl fun w=>by simp only[execOp,j hv,j hu]
  ·exact g.elim
 |makeInterface t x=>
  simp only[BA]at g;split at g
  ·rename_i v hv
   cases hb:pT P t with
   |false=>rw[hb]at g;exact g.elim
   |true=>
    rw[hb,cond_true]at g;exact⟨_,none,g,trivial,trivial,fun w _=>by simp only[execOp,j hv];exact im (Av hb w)⟩
  ·exact g.elim
 |typeAssert x u t ok=>
  simp only[BA]at g;split at g
  ·rename_i v hv
   cases ok with
   |true=>exact g.elim
   |false=>
    rw[cond_false]at g;unfold Pf at g;cases hb:pT P t with
    |false=>rw[hb]at g;exact g.elim
    |true=>
     rw[hb,cond_true]at g;split at g
     ·obtain⟨y,rfl,q⟩:=g
      exact⟨_,none,q,trivial,trivial,fun w _=>by simp only[execOp,j hv];exact im (EN hb w)⟩
     ·exact g.elim
  ·exact g.elim
 |makeFunc fn first cap=>
  simp only[BA]at g;split at g
  ·rename_i vs us hv hu
   have O:=lV Q hv;have e2:=lV Q hu;refine⟨_,none,g,trivial,trivial,fun w _=>?_⟩
   have f1:first.map a.eval=vs.toArray:=by rw[←O];apply cM;simp
   have f2:cap.map a.eval=us.toArray:=by rw[←e2];apply cM;simp
   simp[execOp,Instr.makeFunc,f1,f2]
  ·exact g.elim
 |entry it=>
  simp only[BA]at g;split at g
  ·rename_i b kk vk hv
   obtain⟨h0,e,x,y,hi,q,U,hK⟩:=g;refine⟨_,_,hK,hi,trivial,fun w B=>?_⟩
   simp only[execOp,j hv];refine im ?_;rw[QL h0 B,q,U]
  ·exact g.elim
 |call c=>
  simp only[BA]at g;have C:∀{b:Builtin} {vs:List Value},c.callee=.builtin b→nr r c.args.toList=some vs→∃cs:Array Bool,∀w,(execOp a.eval ⟨T,.call c,type,pos,E,G⟩).run P w=
    (builtin b c.argTypes type cs vs.toArray).run P w:=by
   intro b vs hc n;have O:=lV Q n;have f1:c.args.map a.eval=vs.toArray:=by rw[←O];apply cM;simp
   refine⟨c.args.map fun| .const _=>true|_=>false,fun w=>?_⟩
   simp[execOp,resolve,hc,f1,invoke];rfl
  split at g
  ·rename_i v t hc n hat
   obtain⟨cs,C⟩:=C hc n;obtain⟨u,S,q,A,z⟩:=Nr (ats:=c.argTypes) (ty:=type) (by rw[←bB,hat];rfl) g;exact⟨u,S,q,A,trivial,fun w B=>by rw[C w];simp only[builtin];exact im (z w B)⟩
  ·rename_i v t hc n hat
   obtain⟨cs,C⟩:=C hc n;obtain⟨u,S,q,A,z⟩:=Nu (h:=h) (ats:=c.argTypes) (ty:=type) (by rw[←bB,hat];rfl) g;exact⟨u,S,q,A,trivial,fun w B=>by rw[C w];simp only[builtin];exact im (z w B)⟩
  ·rename_i vs hc n
   obtain⟨cs,C⟩:=C hc n;obtain⟨u,q,z⟩:=yy (P:=P) (ats:=c.argTypes) (ty:=type) g;exact⟨u,none,q,trivial,trivial,fun w _=>by rw[C w];simp only[builtin];exact im (z w)⟩
  ·rename_i vs hc n
   obtain⟨cs,C⟩:=C hc n;obtain⟨u,q,z⟩:=yy (P:=P) (ats:=c.argTypes) (ty:=type) g;exact⟨u,none,q,trivial,trivial,fun w _=>by rw[C w];simp only[builtin];exact im (z w)⟩
  ·rename_i v hc n
   obtain⟨cs,C⟩:=C hc n;obtain⟨u,q,z⟩:=Jt (P:=P) (ats:=c.argTypes) (ty:=type) g;exact⟨u,none,q,trivial,trivial,fun w _=>by rw[C w];simp only[builtin];exact im (z w)⟩
  ·exact g.elim
 |build t ps=>
  simp only[BA]at g;split at g
  ·rename_i vs n
   split at g
   ·rename_i cs hcs
    refine⟨_,none,g,trivial,trivial,fun w _=>?_⟩
    have hp:(ps.map fun x=>(x.1,a.eval x.2))=vs.toArray:=by
     rw[←ol Q n];apply cM;simp
    have F:=AN (ps:=vs.toArray) (by simpa using hcs) w;simp only[execOp];rw[show(ps.map fun(i,x)=>(i,a.eval x))=vs.toArray from hp]
    exact im F
   ·exact g.elim
  ·exact g.elim
 |_=>simp only[BA]at g
end Go.Lift
namespace Go.Lift
open Go
variable {P:Program}
def Mn(P:Program)(s:Sem Next)(K:WK)(w:World):Prop:=
 (∃v a,s.run P w=.ok (.value v) a∧Tame w a∧K v a.heap)∨
 (∃a,s.run P w=.ok .skip a∧Tame w a∧K undef a.heap)∨
 (∃f args,s.run P w=.ok (.enter f args) w∧Calls P f args w fun e a=>Tame w a∧∃v,e=.returned v∧K v a.heap)∨
 (∃l fn tmps assign body,s.run P w=.ok (.round l fn tmps assign body) w∧
  ∀(c:Frame) (cs:List Frame),∃b a,Tame w a∧K (.bool b) a.heap∧Steps P (lone (Frame.round l fn tmps assign body .normal) (c::cs) w) (lone (c.finish (.bool b)) cs a))
def Wv(P:Program)(s:Sem Value)(K:WK)(w:World):Prop:=∃v w',s.run P w=.ok v w'∧Tame w w'∧K v w'.heap
theorem Wv.out{s:Sem Value}{K:WK}{w:World}(h:Wv P s K w):Mn P (do pure (Next.value (←s))) K w:=by
 obtain⟨v,a,c,ht,b⟩:=h;exact .inl ⟨v,a,im c,ht,b⟩
def Wu(P:Program)(s:Sem Unit)(K:WK)(w:World):Prop:=∃w',s.run P w=.ok () w'∧Tame w w'∧K undef w'.heap
theorem Wu.out{s:Sem Unit}{K:WK}{w:World}(h:Wu P s K w):Mn P (do s;pure Next.skip) K w:=by
 obtain⟨a,c,ht,b⟩:=h;exact .inr (.inl ⟨a,R8 c,ht,b⟩)
def iR(w:World)(h:ad):World:={w with heap:=h}
theorem du(w:World)(h:ad):Tame w (iR w h):=⟨rfl,rfl,rfl⟩
theorem jL(e:TypeId)(cs:Array Value)(w:World):(newRow e cs).run P w=.ok (aL w.heap) (iR w (hnew w.heap cs.toList e)):=by
 simp[newRow,newObj,mg,aL,iR,hnew,bind,Sem.bind,pure]
theorem y8(o:Obj)(w:World):(newObj o).run P w=.ok w.heap.size (iR w (w.heap.push o)):=rfl
theorem G6{h:ad}{a b:Addr}(v:Value)(c:a≠b):aK (hset h a v) b=aK h b:=
 World.cell?_setCell_other {(default:World)with heap:=h} a b v c
theorem DQ{h:ad}{a:Addr}{u:Value}(v:Value)(hc:aK h a=some u):aK (hset h a v) a=some v:=
 World.cell?_setCell_same {(default:World)with heap:=h} a v hc
theorem JN{h:ad}{a b:Addr}(v:Value):Er (hset h a v) b=Er h b:=
 World.frozen?_setCell {(default:World)with heap:=h} a b v
theorem Wr.hset{h:ad}{a b:Addr}(v:Value)(f:Wr h b):Wr (hset h a v) b:=by
 obtain⟨⟨u,c⟩,d⟩:=f;refine⟨?_,by rw[JN];exact d⟩
 by_cases e:a=b
 ·subst e;exact⟨v,DQ v c⟩
 ·exact⟨u,by rw[G6 v e];exact c⟩
theorem Ni{w:World}{a:Addr}{v:Value}(hv:∀cs,v≠ .agg cs)(c:∀cs,v≠ .tuple cs)(f:Wr w.heap a):(store a v).run P w=.ok () (iR w (hset w.heap a v)):=by
 obtain⟨⟨u,g⟩,e⟩:=f;have b:w.cell? a=some u:=g;have d:w.frozen? a=false:=e;cases v<;>first|exact absurd rfl (hv _)|exact absurd rfl (c _)|(simp only[store,mg,b,d];rfl)
theorem JE{v:Value}{vs:List Value}(h:cx (v::vs)=true):(∀cs,v≠ .agg cs)∧(∀cs,v≠ .tuple cs)∧cx vs=true:=by
 simp only[cx,bj]at h;refine⟨fun cs e=>?_,fun cs e=>?_,h.2⟩<;>(subst e;exact absurd h.1 (by simp))
theorem rE{a:Addr}:∀(vs:List Value) (i:Nat) (w:World),cx vs=true→(∀j,j<vs.length→Wr w.heap (adr a (i+j)))→
  (storeCells a vs i).run P w=.ok () (iR w (eN w.heap a i vs))
 | [],i,w,_,_=>rfl
 |v::vs,i,w,b,hw=>by
  obtain⟨f,e,b⟩:=JE b;have c:=hw 0 (by simp);simp only[gZ]at c;have d:a.add i=adr a i:=(un a i).symm;simp only[storeCells,d,aZ,Ni f e c,aC];rw[rE vs (i+1) (iR w (hset w.heap (adr a i) v)) b fun j g=>?_]
  ·rfl
  ·have:=hw (j+1) (by simp only[au];omega)
   rw[show i+1+j=i+(j+1) by omega]
   exact this.hset v
theorem H7{a:Addr}(m:Nat):∀(vs:List Value) (i:Nat) (h:ad),eN h (adr a m) i vs=eN h a (m+i) vs
 | [],_,_=>rfl
 |v::vs,i,h=>by
  simp only[eN];rw[H7 m vs (i+1),nf];rfl
theorem IY{t:TypeId}{a v:Value}{K:WK}{w:World}(c:MR P t a v K w.heap):Wu P (Instr.storeAt t a v) K w:=by
 unfold MR at c;split at c
 ·rename_i a
  cases hb:(aJ v.cells.toList.length (cq P t)&&cx v.cells.toList)with
  |false=>rw[hb]at c;exact c.elim
  |true=>
   rw[hb]at c;simp only[bj]at hb;have n:=bo hb.1;obtain⟨c,o⟩:=pg c;have k:v.cells.size=cq P t:=by simpa using n
   have m:(∀j,j<v.cells.toList.length→Wr w.heap (adr a (0+j)))→(Instr.storeAt t (.pointer (some a)) v).run P w=.ok () (iR w (eN w.heap a 0 v.cells.toList)):=by
    intro d;have:=rE (P:=P) v.cells.toList 0 w hb.2 d;simp[Instr.storeAt,lP,storeVar,o,k,this]
   split at c
   ·rename_i u hu
    obtain⟨d,g⟩:=c;refine⟨_,m (fun j f=>?_),du _ _,?_⟩
    ·rw[hu]at f;simp only[au,List.length_nil]at f
     obtain rfl:j=0:=by omega
     exact d
    ·rw[hu];exact g
   ·obtain⟨d,g⟩:=c
    refine⟨_,m (fun j f=>?_),du _ _,g⟩
    rcases d with e|⟨b,i,d⟩
    ·rw[e]at f;cases f
    ·cases i;exact d j f
 ·exact c.elim
theorem jn(z:Array Value)(n:Nat):(gH z n).toList=cU n z.toList:=by
 have key:∀n,(List.range (n*z.size)).map (fun i=>z[i%z.size]!)=(fh n z.toList).flatten:=by
  intro n;induction n with
  |zero=>simp
  |succ n ih=>
   rw[Nat.succ_mul,List.range_add,List.map_append,ih,List.replicate_succ',List.flatten_append];congr 1
   simp only[hE,List.flatten_cons,List.flatten_nil,List.append_nil];apply List.ext_getElem
   ·simp
   ·intro i a b
    simp only[List.length_map,List.length_range]at a;simp[Nat.mod_eq_of_lt a,a,Nat.add_mod]
 simpa[gH,cU]using key n
theorem db{t e:TypeId}(h:wh P t=some e):P.underlying t=some (.slice e):=by
 unfold wh at h;split at h
 ·rename_i e' hu;simp only[bK.injEq]at h;subst h;exact hu
 ·cases h
theorem OL{z:Value}{n:Nat}:((Array.range (n*z.cells.size)).map (z.cells[· %z.cells.size]!))=(cU n z.cells.toList).toArray:=by
 have:=jn z.cells n;unfold gH at this;apply cM;rw[this]
theorem Cc{t e:TypeId}{n:Nat}{ps:Array (Nat×Value)}{z cs:List Value}(ht:wh P t=some e)(o:qm P e=some z)(p:n*cq P e≤16777216)(g:z.length=cq P e)
  (hb:CY (fun i=>some (i*cq P e,cq P e)) (cU n z) ps.toList=some cs)(w:World):
  (Instr.buildSlice t n ps).run P w=.ok (.slice (some (aL w.heap)) n n) (iR w (hnew w.heap cs e)):=by
 obtain⟨v,hv,c⟩:=jE o;obtain⟨i,hi,m⟩:=qY hv;have k:(sizeOf e).run P w=.ok (cq P e) w:=by simp[sizeOf,cN hi,cq,hi]
 have d:v.cells.size=cq P e:=by rw[←g,←c];simp
 have j:=tu _ _ _ hb;have a:((Array.range (n*cq P e)).map (fun i=>(if n*cq P e=0 then #[]else v.cells)[i%(if n*cq P e=0 then #[]else v.cells).size]!))=(cU n z).toArray:=by
  by_cases b:n*cq P e=0
  ·have:(cU n z).length=0:=by simp[cU,g,b]
   rw[aG.1 this];simp[b]
  ·simp only[if_neg b]
   rw[←d,OL,c]
 have f:¬(n*cq P e>2^24):=by omega
 simp only[Instr.buildSlice,aZ,aB (db ht),aC,k,if_neg f];by_cases b:n*cq P e=0
 ·simp only[if_pos b]at a
  simp only[if_pos b,aZ,bV,aC,a,j,jL]
 ·simp only[if_neg b]at a
  simp only[if_neg b,aZ,bV,aC,dX hv,a,j,jL]
theorem Qc{h:ad}{a:Addr}{vs:List Value}(b:Row h a vs):∀j v,vs[j]? =some v→aK h (a.add j)=some v:=fun j v hv=>by
 rw[←un];exact b j v hv
theorem xP{size n cap len:Nat}{b:Option Addr}{vs:List Value}{w:World}(c:SRow w.heap b (n*size) vs):(dW size n (.slice b len cap)).run P w=.ok vs.toArray w:=by
 obtain⟨d,a⟩:=c;cases b with
 |none=>
  rcases a with rfl|⟨_,h,_⟩
  ·simp[dW]
  ·cases h
 |some b=>
  refine run_firstCells_some w size n b len cap vs d fun j v hv=>?_
  rcases a with rfl|⟨_,h,a⟩
  ·cases hv
  ·cases h;exact Qc a j v hv
theorem EV{a:Addr}{m:Nat}{xs:List Value}{w:World}(d:cx xs=true)(c:pk w.heap (some a) m xs):
  (storeCells (a.add m) xs).run P w=.ok () (iR w (eN w.heap a m xs)):=by
 rcases c with rfl|⟨b,hb,c⟩
 ·rfl
 ·cases hb
  have:=rE (P:=P) (a:=adr a m) xs 0 w d fun j e=>by rw[nf,aO];exact c j e
  rw[←un,this,H7,gZ]
set_option maxHeartbeats 1000000 in
theorem F6{t e u ty:TypeId}{b:Option Addr}{sl f c:Nat}{xs:List Value}{x:Value}{K:WK}{w:World}(ht:wh P t=some e)(k:(∃s,P.underlying u=some (.slice s))∨P.underlying u=some .string)
  (g:∀w,(pN x).run P w=.ok c w)(hx:∀w':World,w'.heap=w.heap→(dW (cq P e) c x).run P w'=.ok xs.toArray w')
  (hi:∃i,P.info? e=some i)
  (h:TK P e b sl f c xs K w.heap):Wv P (dq #[t,u] ty #[.slice b sl f,x]) K w:=by
 obtain⟨i,hi⟩:=hi;have j:cq P e=i.size:=by simp[cq,hi]
 have C:qr P e=i.bytes:=by simp[qr,hi]
 by_cases hc:sl+c≤f
 ·obtain⟨G,I,F⟩:=h.1 hc
  refine⟨_,_,?_,du w (eG w.heap b (sl*cq P e) xs),F⟩;cases b with
  |none=>
   have d:=hx w rfl;rw[j]at d;rcases k with⟨s,hd⟩|hd<;>(simp[dq,aB (db ht),aB hd,sizeOf,cN hi,g,hc,d];rfl)
  |some a=>
   have p:=EV (P:=P) I G;have d:=hx w rfl;rw[j]at p d;rcases k with⟨s,hd⟩|hd<;>(simp[dq,aB (db ht),aB hd,sizeOf,cN hi,g,hc,d,p,eG,j])
 ·obtain⟨old,z,H,L,D,A,F⟩:=h.2 (by omega)
  obtain⟨v,hv,E⟩:=jE L;obtain⟨N,n,J⟩:=qY hv;rw[hi]at n;cases n;rw[C]at D A;have q:¬i.bytes=0:=by omega
  have m:¬(281474976710656<lQ (sl+c) f*i.bytes):=by omega
  have d:=hx w.drew rfl;have o:(dW (cq P e) sl (.slice b sl f)).run P w.drew=.ok old.toArray w.drew:=xP H;rw[j]at d o;have y:sl+c≤(Question.appendCap (sl+c) f e).cut (w.tape w.drawn (.appendCap (sl+c) f e)):=py _ _;refine⟨_,iR w.drew (hnew w.heap (old++xs++cU ((Question.appendCap (sl+c) f e).cut (w.tape w.drawn (.appendCap (sl+c) f e))-(sl+c)) z) e),?_,⟨rfl,rfl,rfl⟩,F _ y⟩
  have B:(gH v.cells ((Question.appendCap (sl+c) f e).cut (w.tape w.drawn (.appendCap (sl+c) f e))-(sl+c)))=(cU ((Question.appendCap (sl+c) f e).cut (w.tape w.drawn (.appendCap (sl+c) f e))-(sl+c)) z).toArray:=by
   apply cM;rw[jn,E]
  rcases k with⟨s,hd⟩|hd<;>(simp[dq,aB (db ht),aB hd,sizeOf,cN hi,g,hc,q,m,Question.forced,d,o,dX hv,jL,B,aL];rfl)
theorem Fy{t:TypeId}{K:Prop}(h:Sw P t K):∃i,P.info? t=some i:=by
 unfold Sw at h;cases hi:P.info? t with
 |none=>rw[hi]at h;exact h.elim
 |some i=>exact⟨i,rfl⟩
theorem AC{t:TypeId}(h:cq P t≠0):∃i,P.info? t=some i:=by
 cases hi:P.info? t with
 |none=>exact absurd (by simp[cq,hi]) h
 |some i=>exact⟨i,rfl⟩
theorem Da{size n:Nat}{x:ByteArray}{w:World}:(dW size n (.string x)).run P w=.ok ((dB x).take n).toArray w:=by
 simp only[dW,bV];congr 1
 apply cM;simp[dB,oV,fK,←List.map_take]
theorem yu{t u ty:TypeId}{s x:Value}{K:WK}{w:World}(c:(∃e',P.underlying u=some (.slice e'))∨P.underlying u=some .string)(h:Ee P t s x K w.heap):
  Wv P (dq #[t,u] ty #[s,x]) K w:=by
 unfold Ee at h;split at h
 ·rename_i e b sl sc a xl xc ht
  have hi:=Fy h;obtain⟨⟨xs,d,g⟩,m⟩:=pg h;exact F6 ht c (fun w=>rfl) (fun f i=>xP (by rw[i];exact d)) hi g
 ·rename_i e b sl sc x ht
  cases hb:aJ (cq P e) 1 with
  |false=>rw[hb]at h;exact h.elim
  |true=>
   rw[hb]at h;have k:=bo hb;have j:(dB x).length=x.size:=by simp[dB]
   refine F6 ht c (fun w=>rfl) (fun f _=>?_) (AC (by omega)) h
   rw[Da,aS (by omega)]
 ·exact h.elim
theorem BC{n:Int}(b:0≤n)(a:n≤9223372036854775807):IntKind.i64.wrap n=n:=IntWalk.i64_in n ⟨by omega,a⟩
theorem Oj{t e u ty:TypeId}{b:Option Addr}{sl f:Nat}{k0 k:IntKind}{l:Int}{z:List Value}{K:WK}{w:World}(ht:wh P t=some e)(y:P.underlying u=some (.int k0))
  (T:qm P e=some z)(R:z.length=cq P e)(U:0≤l)(N:l*qr P e≤2^48)(X:l≤9223372036854775807)(Z:((sl+l.toNat:Nat):Int)≤9223372036854775807)
  (h:TK P e b sl f l.toNat (cU l.toNat z) K w.heap):Wv P (dq #[t,u] ty #[.slice b sl f,.int k l]) K w:=by
 obtain⟨v,hv,F⟩:=jE T;obtain⟨i,hi,Y⟩:=qY hv;have j:cq P e=i.size:=by simp[cq,hi]
 have E:qr P e=i.bytes:=by simp[qr,hi]
 have x:IntKind.wrap .i64 l=l:=BC U X;have c:¬l<0:=by omega
 rw[E]at N;have g:¬(281474976710656:Int)<l*i.bytes:=by omega
 have d:∀L:World,(asInt (.int k l)).run P L=.ok l L:=fun L=>rfl
 have D:(gH v.cells l.toNat)=(cU l.toNat z).toArray:=by apply cM;rw[jn,F]
 have s:l.toNat*i.size=0→cU l.toNat z= []:=fun J=>by
  have A:(cU l.toNat z).length=l.toNat*i.size:=by rw[←j,←R];unfold cU;simp
  exact aG.1 (by rw[A,J])
 by_cases hc:sl+l.toNat≤f
 ·obtain⟨Q,N,G⟩:=h.1 hc
  refine⟨_,_,?_,du w (eG w.heap b (sl*cq P e) (cU l.toNat z)),G⟩;cases b with
  |none=>
   by_cases m:l.toNat*i.size=0
   ·simp[dq,aB (db ht),aB y,sizeOf,cN hi,d,x,c,g,hc,m];rfl
   ·simp[dq,aB (db ht),aB y,sizeOf,cN hi,d,x,c,g,hc,dX hv];rfl
  |some a=>
   have n:=EV (P:=P) N Q;rw[j]at n;by_cases m:l.toNat*i.size=0
   ·rw[s m]at n
    simp[dq,aB (db ht),aB y,sizeOf,cN hi,d,x,c,g,hc,n,eG,j,m,s m]
   ·simp[dq,aB (db ht),aB y,sizeOf,cN hi,d,x,c,g,hc,n,eG,j,m,dX hv,D]
 ·obtain⟨old,z',W,B,O,I,G⟩:=h.2 (by omega)
  rw[T]at B;cases B;rw[E]at O I;have S:¬i.bytes=0:=by omega
  have o:¬(281474976710656<lQ (sl+l.toNat) f*i.bytes):=by omega
  have V:¬(9223372036854775807:Int)<((sl:Int)+(l.toNat:Int)):=by omega
  have p:¬(9223372036854775807:Int)<((sl:Int)+max l 0):=by omega
  have q:(dW (cq P e) sl (.slice b sl f)).run P w.drew=.ok old.toArray w.drew:=xP W;rw[j]at q;have H:sl+l.toNat≤(Question.appendCap (sl+l.toNat) f e).cut (w.tape w.drawn (.appendCap (sl+l.toNat) f e)):=py _ _;refine⟨_,iR w.drew (hnew w.heap (old++cU l.toNat z++cU ((Question.appendCap (sl+l.toNat) f e).cut (w.tape w.drawn (.appendCap (sl+l.toNat) f e))-(sl+l.toNat)) z) e),?_,⟨rfl,rfl,rfl⟩,G _ H⟩
  have C:(gH v.cells ((Question.appendCap (sl+l.toNat) f e).cut (w.tape w.drawn (.appendCap (sl+l.toNat) f e))-(sl+l.toNat)))=(cU ((Question.appendCap (sl+l.toNat) f e).cut (w.tape w.drawn (.appendCap (sl+l.toNat) f e))-(sl+l.toNat)) z).toArray:=by
   apply cM;rw[jn,F]
  by_cases m:l.toNat*i.size=0
  ·rw[s m]at G⊢
   simp[dq,aB (db ht),aB y,sizeOf,cN hi,d,x,c,g,hc,p,o,Question.forced,q,dX hv,jL,C,aL,m];rfl
  ·simp[dq,aB (db ht),aB y,sizeOf,cN hi,d,x,c,g,hc,p,o,Question.forced,q,dX hv,jL,C,aL,m,D];rfl
theorem EI{t u ty:TypeId}{k0:IntKind}{s x:Value}{K:WK}{w:World}(g:P.underlying u=some (.int k0))(h:EJ P t s x K w.heap):
  Wv P (dq #[t,u] ty #[s,x]) K w:=by
 unfold EJ at h;split at h
 ·rename_i e b sl sc k l ht
  split at h
  ·rename_i z hz
   cases hb:aJ z.length (cq P e)with
   |false=>rw[hb]at h;exact h.elim
   |true=>
    rw[hb]at h;obtain⟨⟨a,d,i,f⟩,c⟩:=h;exact Oj ht g hz (bo hb) a d i f c
  ·exact h.elim
 ·exact h.elim
theorem oo:∀{a b:List Value},cx a=true→cx b=true→cx (a++b)=true
 | [],_,_,h=>h
 |v::a,b,h,k=>by
  simp only[cx,dz,bj]at h⊢;exact⟨h.1,oo h.2 k⟩
theorem Ao{z:List Value}(h:cx z=true):∀n,cx (cU n z)=true
 |0=>rfl
 |n+1=>by
  have:cU (n+1) z=z++cU n z:=by simp[cU,List.replicate_succ]
  rw[this];exact oo h (Ao h n)
theorem I0{t ty:TypeId}{x:Value}{K:WK}{w:World}(h:MU P t x K w.heap):Wv P (sK #[t] ty #[x]) K w:=by
 unfold MU at h;split at h
 ·rename_i e a n c ht
  split at h
  ·rename_i z hz
   obtain⟨v,hv,f⟩:=jE hz;cases ho:cx z with
   |false=>rw[ho]at h;exact h.elim
   |true=>
    rw[ho]at h;obtain⟨i,g⟩:=h;refine⟨_,_,?_,du w (eG w.heap a 0 (cU n z)),g⟩;cases a with
    |none=>simp[sK,aB (db ht)];rfl
    |some a=>
     cases n with
     |zero=>simp[sK,aB (db ht)];rfl
     |succ n=>
      have b:=EV (P:=P) (Ao ho (n+1)) i;rw[←un,F8]at b;have d:(gH v.cells (n+1)).toList=cU (n+1) z:=by rw[jn,f]
      simp[sK,aB (db ht),dX hv,d,b,eG]
  ·exact h.elim
 ·exact h.elim
theorem Ap:∀(xs:List Value) (n:Nat),cx xs=true→cx (xs.take n)=true
 | [],n,_=>by simp[cx]
 |x::xs,0,_=>by simp[cx]
 |x::xs,n+1,h=>by
  simp only[cx,bj,List.take_succ_cons]at h⊢;exact⟨h.1,Ap xs n h.2⟩
theorem GY(x:ByteArray):cx (dB x)=true:=by
 have:∀l:List UInt8,cx (l.map fun b=>.int .u8 (b.toNat:Int))=true:=by
  intro l;induction l with
  |nil=>rfl
  |cons b l ih=>simp[cx,ih]
 exact this _
theorem KH{t u ty:TypeId}{d s:Value}{K:WK}{w:World}(h:RC P t d s K w.heap):Wv P (pO #[t,u] ty #[d,s]) K w:=by
 unfold RC at h;split at h
 ·rename_i e b dl dc a sl sc ht
  obtain⟨⟨xs,o,n,p,k⟩,j⟩:=pg h;refine⟨_,_,?_,du w (eG w.heap b 0 xs),k⟩;have g:=xP (P:=P) (len:=sl) (cap:=sc) o;cases b with
  |none=>simp[pO,aB (db ht),pN,j,g,goInt];rfl
  |some c=>
   have f:=EV (P:=P) (m:=0) p n;simp only[Addr.add,if_pos]at f;simp[pO,aB (db ht),pN,j,g,goInt,f,eG]
 ·rename_i e b dl dc x ht
  cases hb:aJ (cq P e) 1 with
  |false=>rw[hb]at h;exact h.elim
  |true=>
   rw[hb]at h;have p:=bo hb;obtain⟨i,hi⟩:=AC (P:=P) (t:=e) (by omega);have j:(sizeOf e).run P w=.ok (cq P e) w:=by simp[sizeOf,cN hi,cq,hi]
   obtain⟨n,k⟩:=h;have v:(dB x).length=x.size:=by simp[dB]
   have q:(dB x).take (dh x.size dl)=(dB x).take dl:=by
    by_cases hx:x.size≤dl
    ·rw[show dh x.size dl=x.size from Nat.min_eq_left hx,aS (by omega),aS (by omega)]
    ·rw[show dh x.size dl=dl from Nat.min_eq_right (by omega)]
   have g:(dW (cq P e) (dh x.size dl) (.string x)).run P w=.ok ((dB x).take dl).toArray w:=by
    rw[Da,q]
   refine⟨_,_,?_,du w (eG w.heap b 0 ((dB x).take dl)),k⟩;cases b with
   |none=>simp[pO,aB (db ht),pN,j,g,goInt];rfl
   |some c=>
    have f:=EV (P:=P) (m:=0) (Ap _ dl (GY x)) n;simp only[Addr.add,if_pos]at f;simp[pO,aB (db ht),pN,j,g,goInt,f,eG]
 ·exact h.elim
theorem Pg(k v:Value)(a:Nat):∀(es:List MapEntry),(match es.findIdx? (fun e=>fa k e.key)with
  |some i=>(es.modify i (fun e=>{e with key:=k,val:=v}),a)
  |none=>(es++ [{key:=k,val:=v,born:=a}],a+1))=Jx k v a es
 | []=>rfl
 |e::es=>by
  have b:=Pg k v a es;simp only[Jx,List.findIdx?_cons];cases hk:fa k e.key with
  |true=>simp[List.modify]
  |false=>
   simp only[cJ,if_false];rw[←b];cases hf:es.findIdx? (fun e=>fa k e.key)with
   |none=>simp
   |some i=>simp[List.modify]
theorem xj{d:TypeDesc}{c:CK}(hd:ou d c)(x:c.den):∀(es:List MapEntry) (i:Nat),keysOf c es→
  mX d (c.enc x) es i=some (match es.findIdx? (fun e=>fa (c.enc x) e.key)with
   |some j=>(es[j]?).map fun e=>(i+j,e.val)
   |none=>none)
 | [],i,_=>rfl
 |e::es,i,h=>by
  obtain⟨y,g⟩:=h e (by simp);have b:=CF hd x y;rw[←g]at b;have f:=xj hd x es (i+1) fun k a=>h k (by simp[a])
  simp only[mX,List.findIdx?_cons,b];cases hb:fa (c.enc x) e.key with
  |true=>simp
  |false=>
   simp only[cJ,if_false];rw[f];cases hf:es.findIdx? (fun e=>fa (c.enc x) e.key)with
   |none=>simp
   |some j=>simp[Nat.add_assoc,Nat.add_comm 1 j]
theorem wn{a b:ByteArray}(h:(a==b)=true):a=b:=by
 cases a with|mk a=>cases b with|mk b=>
 have h:(a==b)=true:=h;rw[eq_of_beq h]
theorem xu(a:ByteArray):(a==a)=true:=by
 cases a with|mk a=>
 exact beq_self_eq_true a
theorem Jp{d:TypeDesc}{c:CK}(hd:ou d c)(x y:c.den)(h:fa (c.enc x) (c.enc y)=true):Instr.sameBits 10000 (c.enc y) (c.enc x)=true:=by
 rcases hd with⟨i,rfl,rfl⟩|⟨rfl,rfl⟩|⟨rfl,rfl⟩
 ·have h:x=y:=eq_of_beq (α:=Int) h
  subst h;have:∀n:Int,(i==i&&n==n)=true:=fun n=>by simp
  exact this x
 ·have h:x=y:=wn h
  subst h;exact xu x
 ·have h:x=y:=eq_of_beq (α:=Bool) h
  subst h;exact beq_self_eq_true (α:=Bool) x
theorem vz{w:World}{r:Nat}{es:Array MapEntry}{a:Nat}{o:Obj}(h:w.heap[r]? =some (.map es a)):(setObj r o).run P w=.ok () (iR w (w.heap.setIfInBounds r o)):=by
 simp only[setObj,mg,h];rfl
theorem NI{t k e:TypeId}{d:TypeDesc}{c:CK}(A:P.underlying t=some (.map k e))(o:P.underlying k=some d)(hd:ou d c){r:Nat}{x:c.den}{v:Value}{w:World}(hm:uS c w.heap r):
  (Instr.mapUpdate t (.map (some r)) (c.enc x) v).run P w=.ok () (iR w (lY w.heap r (c.enc x) v)):=by
 obtain⟨es,a,hb,f⟩:=hm;obtain⟨q,z,b,B⟩:=vI (P:=P) hd o x f w;rw[xj hd x es.toList 0 f]at b;have g:=Pg (c.enc x) v a es.toList;have j:lY w.heap r (c.enc x) v=w.heap.setIfInBounds r (.map (Jx (c.enc x) v a es.toList).1.toArray (Jx (c.enc x) v a es.toList).2):=by
  simp only[lY,hb]
 rw[j,←g];simp only[Instr.mapUpdate,aZ,aB A,aC,lj hb,mM hd o,z];cases hf:es.toList.findIdx? (fun e=>fa (c.enc x) e.key)with
 |none=>
  rw[hf]at b;simp only[bK.injEq]at b;subst b;simp only[vz hb];congr 4
  apply cM;simp
 |some i=>
  rw[hf]at b;simp only[bK.injEq]at b;obtain⟨hi,s,_⟩:=List.findIdx?_eq_some_iff_getElem.1 hf;have p:es.toList[i]? =some es.toList[i]:=af hi;rw[p]at b;simp only[np,aO]at b;subst b;have n:es[i]? =some es.toList[i]:=by rw[←bB];exact p
  obtain⟨y,u⟩:=f es.toList[i] (List.getElem_mem hi);have m:Instr.sameBits 10000 (es.toList[i]).key (c.enc x)=true:=by
   rw[u]at s⊢;exact Jp hd x y s
  simp only[n,np,Option.getD_some,Instr.keyThatStays,m,if_true,aZ,bV,aC,vz hb];congr 4
  apply cM;simp
theorem yr{t:TypeId}{m k v:Value}{K:WK}{w:World}(h:Ed P t m k v K w.heap):Wu P (Instr.mapUpdate t m k v) K w:=by
 unfold Ed at h;split at h
 ·rename_i c e m hc
  obtain⟨g,d,f,a,hd⟩:=xb hc;obtain⟨i,rfl,r,rfl,hm,b⟩:=CK.dec_sound h;exact⟨_,NI f a hd hm,du _ _,b⟩
 ·exact h.elim
theorem L9(k:Value):∀(es:List MapEntry),(match es.findIdx? (fun e=>fa k e.key)with
  |some i=>es.eraseIdx i
  |none=>es)=FQ k es
 | []=>rfl
 |e::es=>by
  have a:=L9 k es;simp only[FQ,List.findIdx?_cons];cases hk:fa k e.key with
  |true=>simp
  |false=>
   simp only[cJ,if_false];rw[←a];cases hf:es.findIdx? (fun e=>fa k e.key)<;>simp
theorem LM{t k e ty:TypeId}{ts:Array TypeId}{d:TypeDesc}{c:CK}(ht:ts[0]? =some t) (s:P.underlying t=some (.map k e)) (o:P.underlying k=some d) (hd:ou d c) {r:Nat} {x:c.den} {w:World} (hm:uS c w.heap r):
  (qD ts ty #[.map (some r),c.enc x]).run P w=.ok (.tuple #[]) (iR w (pW w.heap r (c.enc x))):=by
 obtain⟨es,f,hb,j⟩:=hm;obtain⟨q,p,a,v⟩:=vI (P:=P) hd o x j w;rw[xj hd x es.toList 0 j]at a;have g:=L9 (c.enc x) es.toList;have n:pW w.heap r (c.enc x)=w.heap.setIfInBounds r (.map (FQ (c.enc x) es.toList).toArray f):=by
  simp only[pW,hb]
 rw[n,←g];simp only[qD,ht,List.getElem?_toArray,List.getElem?_cons_zero,List.getElem?_cons_succ,aZ,aB s,aC,lj hb,mM hd o,p];cases hf:es.toList.findIdx? (fun e=>fa (c.enc x) e.key)with
 |none=>
  rw[hf]at a;simp only[bK.injEq]at a;subst a;simp[vz hb]
 |some i=>
  rw[hf]at a;simp only[bK.injEq]at a;obtain⟨hi,y,_⟩:=List.findIdx?_eq_some_iff_getElem.1 hf;have u:es.toList[i]? =some es.toList[i]:=af hi;rw[u]at a;simp only[np,aO]at a;subst a;have m:i<es.size:=by simpa using hi
  have b:es.eraseIdxIfInBounds i=(es.toList.eraseIdx i).toArray:=by
   apply cM;simp[Array.eraseIdxIfInBounds,m]
  simp[vz hb,b]
theorem EG{t ty:TypeId}{ts:Array TypeId}{m k:Value}{K:WK}{w:World}(ht:ts[0]? =some t) (h:EH P t m k K w.heap):Wv P (qD ts ty #[m,k]) K w:=by
 unfold EH at h;split at h
 ·rename_i c e m hc
  obtain⟨g,d,f,b,hd⟩:=xb hc;obtain⟨i,rfl,h⟩:=CK.dec_sound h;rcases h with⟨rfl,a⟩|⟨r,rfl,hm,a⟩
  ·refine⟨_,w,?_,Tame.refl w,a⟩
   simp[qD,ht,aB f,mM hd b]
  ·exact⟨_,_,LM ht f b hd hm,du _ _,a⟩
 ·exact h.elim
theorem Qe{t k e:TypeId}(b:P.underlying t=some (.map k e)){m:Option Nat}{a:Nat}{w:World}(hm:m=none∧a=0∨∃r es,m=some r∧w.heap[r]? =some (.map es a)):
  (ug t (.map m)).run P w=.ok (.pointer (some (aL w.heap))) (iR w (w.heap.push (.mapIter m a #[] a))):=by
 rcases hm with⟨rfl,rfl⟩|⟨r,es,rfl,hb⟩
 ·simp only[ug,aZ,aB b,aC,bV,y8,aL]
 ·simp only[ug,aZ,aB b,aC,bV,lj hb,y8,aL]
theorem Nn{t:TypeId}(a:P.underlying t=some .string){s:ByteArray}{w:World}:
  (ug t (.string s)).run P w=.ok (.pointer (some (aL w.heap))) (iR w (w.heap.push (.stringIter s 0))):=by
 simp only[ug,aZ,aB a,aC,bV,y8,aL]
theorem wT{w:World}{i:Nat}{m:Option Nat}{a:Nat}{b:Array Nat}{last:Nat}(h:w.heap[i]? =some (.mapIter m a b last)):(getObj i).run P w=.ok (.mapIter m a b last) w:=by
 simp only[getObj,mg,h]
theorem Lf{w:World}{i:Nat}{m:Option Nat}{a:Nat}{b:Array Nat}{last:Nat}{o:Obj}(h:w.heap[i]? =some (.mapIter m a b last)):(setObj i o).run P w=.ok () (iR w (w.heap.setIfInBounds i o)):=by
 simp only[setObj,mg,h];rfl
theorem FZ(n:Nat)(a:0<n)(w:World):∃k w',k<n∧(choose (.mapNext n)).run P w=.ok k w'∧Tame w w'∧w'.heap=w.heap:=by
 unfold choose;simp only[mg];by_cases h:(Question.mapNext n).forced=true
 ·exact⟨0,w,a,by rw[if_pos h],Tame.refl w,rfl⟩
 ·refine⟨(Question.mapNext n).cut (w.tape w.drawn (.mapNext n)),{w with drawn:=w.drawn+1},Nat.mod_lt _ a,by rw[if_neg h],⟨rfl,rfl,rfl⟩,rfl⟩
theorem KG{J:Value}{t:TypeId}{K:WK}{w:World}(h:RB J K w.heap):Wv P (pD J false t) K w:=by
 unfold RB at h;split at h
 ·rename_i a
  obtain⟨I,m,j,g,last,hi,h⟩:=h;obtain⟨b,off,L⟩:=a;simp only at I hi h;subst I;rcases h with⟨rfl,O⟩|⟨r,es,v,rfl,hb,z,B,H⟩
  ·exact⟨_,w,by simp only[pD,aZ,wT hi,aC,bV],Tame.refl w,O⟩
  ·have s:(!g.isEmpty&& !es.isEmpty&&es.all (fun e=>decide (e.born≥last)))=false:=by
    rcases z with h|h|h<;>simp[h]
   obtain⟨left,i⟩:∃left,left=es.filter fun e=> !g.contains e.born:=⟨_,rfl⟩
   obtain⟨old,p⟩:∃old,old=left.filter (·.born<j):=⟨_,rfl⟩
   obtain⟨new,hnew⟩:∃new,new=left.filter (·.born≥j):=⟨_,rfl⟩
   obtain⟨d,f⟩:∃d:Array (Option MapEntry),d=(if old.isEmpty then #[none]else #[])++(old++new).map some:=⟨_,rfl⟩
   have A:0<d.size:=by
    rw[f];by_cases y:old.isEmpty=true
    ·simp[y];omega
    ·have:old.size≠0:=by simpa using y
     simp[y];omega
   obtain⟨k,D,Q,u,ht,E⟩:=FZ (P:=P) d.size A w;obtain⟨c,hc⟩:∃c,d[k]? =some c:=⟨d[k],Array.getElem?_eq_getElem Q⟩;have G:D.heap[b]? =some (.mapIter (some r) j g last):=by rw[E];exact hi
   have o:(!g.isEmpty&& !es.isEmpty&&es.all fun x=>decide (x.born≥last))=false:=s
   cases c with
   |none=>
    refine⟨.tuple #[.bool false],D,?_,ht,?_⟩
    ·simp only[pD,aZ,wT hi,aC,bV,lj hb,o,cJ,if_false,←i,←p,←hnew,←f,u,hc]
    ·rw[E]
     have q:old.isEmpty=true:=by
      have hm:none∈d:=Array.mem_of_getElem? hc;rw[f]at hm;by_cases y:old.isEmpty=true
      ·exact y
      ·simp[y]at hm
     refine B fun e N F=>?_
     cases hs:g.contains e.born with
     |true=>rfl
     |false=>
      have n:e∈old:=by
       rw[p,i];simp only[pF];exact⟨⟨by simpa using N,by rw[hs];rfl⟩,by simpa using F⟩
      rw[Array.isEmpty_iff]at q;rw[q]at n;simp at n
   |some e=>
    have n:e∈es∧g.contains e.born=false:=by
     have hm:some e∈d:=Array.mem_of_getElem? hc;have C:e∈left:=by
      rw[f]at hm;rw[Array.mem_append]at hm;rcases hm with hm|hm
      ·split at hm<;>simp at hm
      ·simp only[Array.mem_map,bK.injEq,exists_eq_right,Array.mem_append]at hm
       rcases hm with hm|hm
       ·rw[p]at hm;exact(pF.1 hm).1
       ·rw[hnew]at hm;exact(pF.1 hm).1
     rw[i]at C;have:=pF.1 C;exact⟨this.1,by simpa using this.2⟩
    refine⟨.tuple #[.bool true,e.key,e.val],iR D (D.heap.setIfInBounds b (.mapIter (some r) j (g.push e.born) v)),?_,ht.trans (du _ _),?_⟩
    ·simp only[pD,aZ,wT hi,aC,bV,lj hb,o,cJ,if_false,←i,←p,←hnew,←f,u,hc,Lf G]
    ·rw[E]
     exact H e (by simpa using n.1) n.2
 ·exact h.elim
theorem IZ{j:Value}{t:TypeId}{K:WK}{w:World}(h:MS j K w.heap):Wv P (pD j true t) K w:=by
 unfold MS at h;split at h
 ·rename_i a
  obtain⟨i,s,pos,hi,h⟩:=h;obtain⟨b,off,k⟩:=a;simp only at i hi h;subst i;have m:(getObj b).run P w=.ok (.stringIter s pos) w:=by simp only[getObj,mg,hi]
  rcases h with⟨o,f⟩|⟨c,hc,g,f⟩
  ·exact⟨_,w,by simp only[pD,aZ,m,aC,if_neg (de.2 o),bV],Tame.refl w,f⟩
  ·have d:pos<s.size:=by
    rcases Nat.lt_or_ge pos s.size with h'|h'
    ·exact h'
    ·rw[getElem?_neg s pos (de.2 h')]at hc;cases hc
   have e:(s[pos]'d)=c:=by rw[getElem?_pos s pos d]at hc;exact bK.inj hc
   have hd:=decode_ascii s pos d (by rw[e];exact g);rw[e]at hd;have n:(setObj b (.stringIter s (pos+1))).run P w=.ok () (iR w (w.heap.setIfInBounds b (.stringIter s (pos+1)))):=by simp only[setObj,mg,hi];rfl
   exact⟨_,_,by simp only[pD,aZ,m,aC,if_pos d,hd,n,bV];rfl,du _ _,f⟩
 ·exact h.elim
theorem Ib{w:World}{g n:Nat}(a:n≠0):w.freeze ⟨g,0,none⟩ n=iR w (PB w.heap g n):=by
 unfold World.freeze;rw[if_neg a];rfl
theorem KF{t d ty:TypeId}{p n:Value}{K:WK}{w:World}(h:RA P t p n K w.heap):Wv P (Builtin.unsafeString_ #[t,d] ty #[p,n]) K w:=by
 unfold RA at h;split at h
 ·rename_i e a n hu
  cases hc:aJ (P.cellsOf e) 1 with
  |false=>rw[hc]at h;exact h.elim
  |true=>
   rw[hc]at h;rcases h with⟨rfl,c⟩|⟨l,g,cs,rfl,rfl,b,i,hb,f,hx,c⟩
   ·exact⟨_,w,Lib.run_unsafeString_none ..,Tame.refl w,c⟩
   ·refine⟨_,_,Lib.run_unsafeString_row w t d ty e hu (bo hc) g cs.size (by simp[World.shape?,hb]) l b f i ?_,?_,?_⟩
    ·intro j x k
     have:=hx j x k;have e:((⟨g,0,none⟩:Addr).add j)=⟨g,j,none⟩:=by unfold Addr.add;split<;>simp_all
     rw[e];simp[World.cell?,hb,this]
    ·rw[Ib (by simpa using b)];exact du _ _
    ·rw[Ib (by simpa using b)];exact c
 ·exact h.elim
theorem G3{t e:TypeId}{z:List Value}{k k':IntKind}{l c:Int}{w:World}(ht:wh P t=some e)(B:qm P e=some z)(f:z.length=cq P e)(x:0≤l)(D:l≤c)(C:c≤9223372036854775807)(y:qr P e*c≤2^48):
  (Instr.makeSlice t (.int k l) (.int k' c)).run P w=.ok (.slice (some (aL w.heap)) l.toNat c.toNat) (iR w (hnew w.heap (cU c.toNat z) e)):=by
 obtain⟨v,hv,g⟩:=jE B;obtain⟨i,hi,A⟩:=qY hv;have d:cq P e=i.size:=by simp[cq,hi]
 have n:qr P e=i.bytes:=by simp[qr,hi]
 have o:v.cells.size=i.size:=by rw[←d,←f,←g];simp
 have q:=BC x (by omega);have hc:=BC (show 0≤c by omega) C
 rw[n]at y;have c1:¬(c<0):=by omega
 have s:¬(281474976710656<(i.bytes:Int)*c):=by omega
 have p:¬(l<0):=by omega
 have u:¬(c<l):=by omega
 by_cases a:c.toNat*i.size=0
 ·have m:(cU c.toNat z).length=0:=by simp[cU,f,d,a]
  rw[aG.1 m];simp[Instr.makeSlice,aB (db ht),asInt,asIntOf,cN hi,q,hc,c1,s,p,u,sizeOf,a,jL]
 ·have b:((Array.range (c.toNat*i.size)).map (fun j=>v.cells[j%v.cells.size]!))=(cU c.toNat z).toArray:=by
   rw[←o,OL,g]
  have key:(newRow e ((Array.range (c.toNat*i.size)).map (fun j=>v.cells[j%v.cells.size]!))).run P w=.ok (aL w.heap) (iR w (hnew w.heap (cU c.toNat z) e)):=by
   rw[b,jL]
  simp[Instr.makeSlice,aB (db ht),asInt,asIntOf,cN hi,q,hc,c1,s,p,u,sizeOf,a,dX hv];rw[key];rfl
theorem Agree.args{N:Nat}{r:cG}{a:Act}(h:Agree N r a){os:Array Operand}{vs:List Value}(hv:nr r os.toList=some vs):os.map a.eval=vs.toArray:=by
 rw[←lV h hv];apply cM;simp
theorem HC.out{f:FuncId}{args:List Value}{ks:List Kind}{K:WK}{w:World}(h:HC P f args ks (fun x h'=>K (BS ks (lZ ks x)) h') w.heap):Mn P (callFunc f args.toArray) K w:=by
 rcases h.run w rfl with⟨b,d⟩|⟨v,c,b,ht,x,rfl,a⟩
 ·refine .inr (.inr (.inl ⟨f,args.toArray,b,d.mono ?_⟩))
  rintro e c ⟨ht,x,rfl,a⟩;exact⟨ht,_,rfl,a⟩
 ·exact .inl ⟨_,c,b,ht,a⟩
theorem QU{a b e:TypeId}{s:ByteArray}{w:World}(g:P.underlying a=some .string)(hd:P.underlying b=some (.slice e))(k:P.underlying e=some (.int .u8)):
  ∃c,s.size≤c∧(convert a b (.string s)).run P w=.ok (.slice (some (aL w.heap)) s.size c) (iR w.drew (w.heap.push (.cells (dB s++fh (c-s.size) (Value.int .u8 0)).toArray e (c,c+1)))):=by
 have d:s.size≤grownCap w s.size 0 e:=py _ _;refine⟨_,d,?_⟩;rw[Go.Lib.run_convert_string_bytes w a b e s g hd k];have hc:(Go.Lib.bytesCells w e s).size=grownCap w s.size 0 e:=by
  unfold Go.Lib.bytesCells;rw[Array.size_append,Array.size_map,Array.size_replicate,show s.data.size=s.size from rfl]
  omega
 have f:(dB s++fh (grownCap w s.size 0 e-s.size) (Value.int .u8 0)).toArray=Go.Lib.bytesCells w e s:=by
  unfold Go.Lib.bytesCells dB;apply cM;simp
 rw[f];unfold Go.Lib.bytesWorld World.freeze;rw[if_neg (by omega),hc];unfold World.alloc World.drew iR;congr 1
 congr 1
 apply Array.ext (by simp);intro i m j;rw[Array.getElem_modify];simp only[Array.getElem_push];split
 ·rename_i e
  subst e;simp
 ·rename_i e
  have hi:i<w.heap.size:=by simp at j;omega
  rw[dif_pos hi,dif_pos hi]
theorem BF{o:Oper}{r:cG}{K:WK}{w:World}{N:Nat}{a:Act}(I:Agree N r a)(j:GQ P o r K w.heap):Mn P (execOp a.eval o) K w:=by
 have B:∀{x:Operand} {v:Value},cR r x=some v→a.eval x=v:=fun h=>jG I h
 obtain⟨X,Y,type,pos,F,H⟩:=o;cases Y with
 |alloc t=>
  simp only[GQ]at j;split at j
  ·rename_i z hz
   obtain⟨v,hv,V⟩:=jE hz;have D:(Instr.alloc t true (.tuple #[])).run P w=.ok (.pointer (some (aL w.heap))) (iR w (hnew w.heap z t)):=by
    simp[Instr.alloc,dX hv,newVar,jL,V]
   exact Wv.out ⟨_,_,D,du _ _,j⟩
  ·exact j.elim
 |box t x=>
  simp only[GQ]at j;split at j
  ·rename_i v hv
   have D:(Instr.box t v).run P w=.ok (.pointer (some (aL w.heap))) (iR w (hnew w.heap v.cells.toList t)):=by
    simp[Instr.box,newVar,jL]
   simp only[execOp,B hv];exact Wv.out ⟨_,_,D,du _ _,j⟩
  ·exact j.elim
 |build t ps=>
  simp only[GQ]at j;split at j
  ·rename_i vs q
   split at j
   ·rename_i cs hcs
    have S:(ps.map fun x=>(x.1,a.eval x.2))=vs.toArray:=by
     rw[←ol I q];apply cM;simp
    have D:=AN (ps:=vs.toArray) (by simpa using hcs) w;simp only[execOp];rw[show(ps.map fun(i,x)=>(i,a.eval x))=vs.toArray from S]
    exact Wv.out ⟨_,w,D,Tame.refl w,j⟩
   ·exact j.elim
  ·exact j.elim
 |buildSlice t n ps=>
  simp only[GQ]at j;split at j
  ·rename_i e vs ht q
   split at j
   ·rename_i z hz
    cases hb:(vU (n*cq P e) 16777216&&aJ z.length (cq P e))with
    |false=>rw[hb]at j;exact j.elim
    |true=>
     rw[hb]at j;simp only[bj]at hb;simp only[cond_true]at j;split at j
     ·rename_i cs hcs
      have S:(ps.map fun x=>(x.1,a.eval x.2))=vs.toArray:=by
       rw[←ol I q];apply cM;simp
      have D:=Cc (ps:=vs.toArray) ht hz (fV hb.1) (bo hb.2) (by simpa using hcs) w;simp only[execOp];rw[show(ps.map fun(i,x)=>(i,a.eval x))=vs.toArray from S]
      exact Wv.out ⟨_,_,D,du _ _,j⟩
     ·exact j.elim
   ·exact j.elim
  ·exact j.elim
 |store t x y=>
  simp only[GQ]at j;split at j
  ·rename_i b v hb hv
   simp only[execOp,B hb,B hv];exact Wu.out (IY j)
  ·exact j.elim
 |mapUpdate t m k x=>
  simp only[GQ]at j;split at j
  ·rename_i mv kv xv hm C hx
   simp only[execOp,B hm,B C,B hx];exact Wu.out (yr j)
  ·exact j.elim
 |insert t m k x=>
  simp only[GQ]at j;split at j
  ·rename_i mv kv xv hm C hx
   simp only[execOp,B hm,B C,B hx];exact Wu.out (yr j)
  ·exact j.elim
 |makeMap t n=>
  simp only[GQ]at j;cases n with
  |none=>exact Wv.out ⟨_,iR w (w.heap.push (.map #[] 0)),by simp[Instr.makeMap];rfl,du _ _,j⟩
  |some n=>
   simp only at j;split at j
   ·rename_i k i hn ht
    exact Wv.out ⟨_,iR w (w.heap.push (.map #[] 0)),by simp[Instr.makeMap,B hn,aB ht,asInt,asIntOf];rfl,du _ _,j⟩
   ·exact j.elim
 |makeSlice t l c=>
  simp only[GQ]at j;split at j
  ·rename_i e k l' k' c' ht R hc
   split at j
   ·rename_i z hz
    cases hb:aJ z.length (cq P e)with
    |false=>rw[hb]at j;exact j.elim
    |true=>
     rw[hb]at j;obtain⟨⟨Z,U,T,h3⟩,j⟩:=j;simp only[execOp,B R,B hc];exact Wv.out ⟨_,_,G3 ht hz (bo hb) Z U T h3,du _ _,j⟩
   ·exact j.elim
  ·exact j.elim
 |convert s d x=>
  simp only[GQ]at j;split at j
  ·rename_i e v W hd hx
   cases hu:NQ P e with
   |false=>rw[hu]at j;exact j.elim
   |true=>
    rw[hu]at j;obtain⟨c,hc,J⟩:=QU (w:=w) (s:=v) W hd (Fx hu);simp only[execOp,B hx];exact Wv.out ⟨_,_,J,⟨rfl,rfl,rfl⟩,j c hc⟩
  ·exact j.elim
 |range t x=>
  simp only[GQ]at j;split at j
  ·rename_i k e m hu hx
   obtain⟨O,hm,j⟩:=j;simp only[execOp,B hx];exact Wv.out ⟨_,_,Qe hu hm,du _ _,j⟩
  ·rename_i s hu hx
   simp only[execOp,B hx];exact Wv.out ⟨_,_,Nn hu,du _ _,j⟩
  ·exact j.elim
 |next it isS=>
  cases isS with
  |true=>
   simp only[GQ]at j;split at j
   ·rename_i v hv
    simp only[execOp,B hv];exact Wv.out (IZ j)
   ·exact j.elim
  |false=>
   simp only[GQ]at j;split at j
   ·rename_i v hv
    simp only[execOp,B hv];exact Wv.out (KG j)
   ·exact j.elim
 |call c=>
  simp only[GQ]at j;have L:∀{b:Builtin} {vs:List Value},c.callee=.builtin b→nr r c.args.toList=some vs→∃cs:Array Bool,∀w,(execOp a.eval ⟨X,.call c,type,pos,F,H⟩).run P w=
    (builtin b c.argTypes type cs vs.toArray).run P w:=by
   intro b vs hc q;refine⟨c.args.map fun| .const _=>true|_=>false,fun w=>?_⟩
   simp[execOp,resolve,hc,I.args q,invoke];rfl
  have G:∀{s s':Sem Next},(∀w,s.run P w=s'.run P w)→Mn P s' K w→Mn P s K w:=by
   intro s s' D h;unfold Mn at h⊢;simp only[D];exact h
  split at j
  ·rename_i s x hc q
   split at j
   ·rename_i t u hat
    obtain⟨cs,E⟩:=L hc q;refine G E ?_;have A:c.argTypes= #[t,u]:=by apply cM;rw[hat]
    simp only[builtin,A];split at j
    ·rename_i e' hu;exact Wv.out (yu (.inl ⟨e',hu⟩) j)
    ·rename_i hu;exact Wv.out (yu (.inr hu) j)
    ·rename_i k0 hu;exact Wv.out (EI hu j)
    ·exact j.elim
   ·exact j.elim
  ·rename_i x hc q
   split at j
   ·rename_i t hat
    obtain⟨cs,E⟩:=L hc q;refine G E ?_;have A:c.argTypes= #[t]:=by apply cM;rw[hat]
    simp only[builtin,A];exact Wv.out (I0 j)
   ·exact j.elim
  ·rename_i s x hc q
   split at j
   ·rename_i t u hat
    obtain⟨cs,E⟩:=L hc q;refine G E ?_;have A:c.argTypes= #[t,u]:=by apply cM;rw[hat]
    simp only[builtin,A];exact Wv.out (KH j)
   ·exact j.elim
  ·rename_i p n hc q
   split at j
   ·rename_i t u hat
    obtain⟨cs,E⟩:=L hc q;refine G E ?_;have A:c.argTypes= #[t,u]:=by apply cM;rw[hat]
    simp only[builtin,A];exact Wv.out (KF j)
   ·exact j.elim
  ·rename_i m k hc q
   split at j
   ·rename_i t u hat
    obtain⟨cs,E⟩:=L hc q;refine G E ?_;simp only[builtin];exact Wv.out (EG (by rw[←bB,hat];rfl) j)
   ·exact j.elim
  ·rename_i f args hc q
   unfold VD at j;split at j
   ·exact j.elim
   ·rename_i ks hks
    split at j
    ·rename_i f
     refine G (s':=callFunc f args.toArray) (fun w=>?_) j.out
     simp[execOp,resolve,hc,I.args q,Act.eval,Deferred.ofValue,invoke]
    ·rename_i f hf
     split at j
     ·rename_i fv hfv
      rcases j.run with⟨g,first,cap,rfl,Q⟩|⟨l,rfl,Q⟩
      rotate_left
      ·obtain⟨fn,tmps,assign,body,U,T⟩:=Q.run w rfl
       refine .inr (.inr (.inr ⟨l,fn,tmps,assign,body,?_,fun c cs=>?_⟩))
       ·rw[←U]
        simp[execOp,resolve,hc,I.args q,B hfv,Deferred.ofValue,invoke]
       ·obtain⟨b,w',ht,C,W⟩:=T c cs
        refine⟨b,w',ht,?_,W⟩;obtain⟨t,e,C⟩:=rR C;have R:ks.length=1:=by rw[←tx ks t,←e];rfl
        match ks,R,t,e,C with
        | [k],_,t,e,C=>rw[←e]at C;exact C
      refine G (s':=callFunc g (first.toList++args++cap.toList).toArray) (fun w=>?_) Q.out
      have e:first++args.toArray++cap=(first.toList++args++cap.toList).toArray:=by apply cM;simp
      rw[←e];simp[execOp,resolve,hc,I.args q,B hfv,Deferred.ofValue,invoke]
     ·exact j.elim
  ·exact j.elim
 |_=>simp only[GQ]at j
end Go.Lift
