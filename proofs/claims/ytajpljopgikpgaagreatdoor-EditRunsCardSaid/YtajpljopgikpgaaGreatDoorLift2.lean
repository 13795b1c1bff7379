/- A part of the proof that the named laws of this program answer true, whatever the input. -/
import Derived.Test.YtajpljopgikpgaaGreatDoorLift1
import Derived.BigFrameIn
open Array renaming getD_eq_getD_getElem?→c5,getElem?_toList→bp,getElem?_setIfInBounds_ne→eB,replicate→mP,getElem?_eq_some_iff→cd,getElem?_eq_getElem→iz,getElem?_eq_none→j1,mapM_eq_mapM_toList→l8,ext'→cT
open Bool renaming or_eq_true→iG,and_eq_true→bC,or_eq_false_iff→lz
open List renaming mem_of_getElem?→ay,length_cons→aN,mem_cons→au,getElem?_cons_zero→bW,getElem?_eq_getElem→af,any_eq_true→ci,getElem?_eq_some_iff→aW,mem_cons_of_mem→aR,mem_cons_self→az,range→cK,filter_cons→cC,mem_singleton→aq,size_toArray→cP
open Nat renaming blt→wm,beq→bF,eq_of_beq_eq_true→aZ,land→iP,lor→cO,testBit_and→gO,zero_testBit→fI,succ→fJ,zero_add→aE,beq_refl→qg,lt_or_ge→bH,pred→vL,sub_zero→eT
open Option renaming some→bv
namespace Go.Lift
open Go
variable {P:Program} {ro:Option Nat} {n:Nat}
def FW(ro:Option Nat):Fence:={fn:=fun _=>True,depth:=none,alive:=false,round:=ro}
theorem Nq(m:Machine):m.fenced P (FW ro):=by
 intro g _;exact⟨fun h=>by simp[FW]at h,.inl trivial,fun _ _=>trivial,fun d h=>by simp[FW]at h⟩
theorem xk{m a:Machine}(h:Steps P m a):StepsIn (Machine.fenced P (FW ro)) P m a:=(StepsIn.of_steps h).mono fun m _=>Nq m
theorem Dn{k:Nat}{f:FuncId}{args:Array Value}{w:World}{R:Ending→World→Prop}(h:Calls P f args w R):CallsIn (FW ro) k P f args w R:=by
 refine⟨trivial,fun cs _=>?_⟩
 obtain⟨e,w',fr,d,hc,a,b⟩:=h cs;refine⟨e,w',fr,d,?_,a,b⟩;cases e with
 |returned v=>exact xk hc
 |panicked c=>exact xk hc
 |outgrown=>exact hc
theorem o9{o:Oper}{a:Act}{w:World}{K:WK}{next:Act→World→Prop}{Q:Exit→Act→World→Prop}(hd:∀c,o.op≠ .defer c)(h:IE P (execOp a.eval o) K w)
  (j:∀v w',Tame w w'→K v w'.heap→next (a.put o.dst v) w'):o.wpIn (FW ro) n P a w next Q:=by
 refine⟨fun _ _=>trivial,?_⟩
 rw[Oper.semAt_eq _ _ _ hd];rcases h with⟨v,w',g,i,d⟩|⟨w',g,i,d⟩|⟨f,args,g,hc⟩|⟨l,fn,tmps,assign,body,g,hc⟩
 ·rw[g];exact j v w' i d
 ·rw[g];exact j undef w' i d
 ·rw[g]
  refine⟨fun h=>by simp[FW]at h,Dn (hc.mono ?_)⟩
  rintro e w' ⟨i,v,rfl,d⟩;exact j v w' i d
 ·rw[g]
  refine⟨fun h=>by simp[FW]at h,trivial,fun c cs _=>?_⟩
  obtain⟨b,w',i,d,k⟩:=hc c cs;exact⟨.returned (.bool b),w',j _ w' i d,xk k⟩
theorem rt{N:Nat}{o:Oper}{v:Value}{r:cA}{K:cA→Prop}{a:Act}{d:tD}{dv:DV}(h:xH N o v r K)(c:Agree N r a)(hd:DecOk d r)(hv:EA dv v):
  ∃r',K r'∧Agree N r' (a.put o.dst v)∧DecOk (qc d o dv) r':=by
 unfold xH at h;unfold qc;cases ho:o.dst with
 |none=>rw[ho]at h;exact⟨r,h,c,hd⟩
 |some t=>
  rw[ho]at h;simp only at h;cases hb:wm t N with
  |false=>rw[hb]at h;exact h.elim
  |true=>
   rw[hb]at h;have b:t<N:=by simpa using hb
   refine⟨_,h,c.put t v b,fun s=>?_⟩
   by_cases e:t=s
   ·subst e
    have:pP ((t,dv)::d) t=dv:=by simp[pP]
    rw[this];exact .inr ⟨v,g6 t v r,hv⟩
   ·have f:pP ((t,dv)::d) s=pP d s:=by
     have:bF t s=false:=Bool.eq_false_iff.2 fun e'=>e (aZ e')
     show(bif bF t s then dv else pP d s)=_
     rw[this];rfl
    rw[f,gw v r e];exact hd s
theorem A6{ek:Option (Kind×Kind)}{o:Op}{r:cA}{K:RK}{h:ad}(a:zN P ek o r K h):∀c,o≠ .defer c:=by
 intro c e;subst e;exact a
theorem uP{o:Oper}{r:cA}{K:WK}{h:ad}(a:D6 P o r K h):∀c,o.op≠ .defer c:=by
 intro c e;unfold D6 at a;rw[e]at a;exact a
theorem TU{d:tD}{o:Op}(h:uA P o=false):Hh d o=.x:=by
 cases o<;>first|rfl|(simp[uA]at h)
theorem MQ{N:Nat}{ek:Option (Kind×Kind)}{o:Oper}{r:cA}{K:cA→ad→Prop}{a:Act}{w:World}{d:tD}{next:Act→World→Prop}{Q:Exit→Act→World→Prop}
  (g:Tg P N ek o r K w.heap)(i:Agree N r a)(hd:DecOk d r)
  (p:∀v w' e,Tame w w'→K e w'.heap→Agree N e (a.put o.dst v)→DecOk (qc d o (Hh d o.op)) e→next (a.put o.dst v) w'):o.wpIn (FW ro) n P a w next Q:=by
 unfold Tg at g;cases hq:uA P o.op with
 |true=>
  rw[hq,cond_true]at g;obtain⟨v,S,j,q,k,s⟩:=Ab i g d hd;refine o9 (K:=fun u t=>u=v∧t=w.heap) (A6 g) (.inl ⟨v,w,s w q,Tame.refl w,rfl,rfl⟩) ?_
  rintro u w' m ⟨rfl,x⟩;obtain⟨e,c,f,b⟩:=rt j i hd k;exact p u w' e m (by rw[x];exact c) f b
 |false=>
  rw[hq,cond_false]at g;refine o9 (uP g) (zQ i g) ?_;intro v w' m j;obtain⟨e,c,f,b⟩:=rt j i hd (dv:=Hh d o.op) (by rw[TU hq];trivial);exact p v w' e m c f b
theorem Fl{t:Array Value}{i:Nat}{b:Bool}(h:t.getD i undef=.bool b):t[i]? =some (.bool b):=by
 rw[c5]at h;cases hc:t[i]? with
 |none=>rw[hc]at h;simp[undef]at h
 |some v=>rw[hc]at h;simp at h;rw[h]
theorem Ky{t:Array Value}{i:Nat}(h:t.getD i undef=undef):t[i]? =none∨t[i]? =some undef:=by
 rw[c5]at h;cases hc:t[i]? with
 |none=>exact .inl rfl
 |some v=>rw[hc]at h;simp at h;rw[h];exact .inr rfl
theorem mp{N:Nat}{ops:Array Oper}{d:tD}{o:Oper}{b:Bool}{r:cA}{a:Act}(h:iv ops.toList d o=some b)(m:Agree N r a)(hd:DecOk d r):
  Region.wanted o (yielded ops a.tmps)=b:=by
 unfold iv at h;unfold Region.wanted;cases hg:o.guard with
 |none=>rw[hg]at h;simp only[bv.injEq]at h;exact h
 |some g=>
  obtain⟨j,c⟩:=g;rw[hg]at h;simp only[bp]at h;simp only;cases hj:ops[j]? with
  |none=>rw[hj]at h;cases h
  |some oj=>
   rw[hj]at h;simp only at h;cases ht:oj.dst with
   |none=>rw[ht]at h;cases h
   |some t=>
    rw[ht]at h;simp only at h;have n:yielded ops a.tmps j=(match a.tmps[t]? with|some (.bool b)=>some b|_=>none):=by
     unfold yielded;simp[hj,ht];rfl
    rw[n];rcases hd t with hx|⟨v,hv,k⟩
    ·rw[hx]at h;cases h
    ·have i:=m.look t v hv
     cases hdl:pP d t with
     |x=>rw[hdl]at h;cases h
     |t=>
      rw[hdl]at h k;simp only[bv.injEq]at h;subst h;have:v=.bool true:=k;subst this;rw[Fl i];cases c<;>rfl
     |f=>
      rw[hdl]at h k;simp only[bv.injEq]at h;subst h;have:v=.bool false:=k;subst this;rw[Fl i];cases c<;>rfl
     |u=>
      rw[hdl]at h k;simp only[bv.injEq]at h;subst h;have:v=undef:=k;subst this;rcases Ky i with e|e<;>rw[e]<;>cases c<;>rfl
structure Fr(W:Nat→Prop)(a0:Act)(w0:World)(a:Act)(w:World):Prop where
 tame:Tame w0 w
 defers:a.defers=a0.defers
 same:∀t,¬W t→a.tmps.getD t undef=a0.tmps.getD t undef
theorem Fr.refl(W:Nat→Prop)(a:Act)(w:World):Fr W a w a w:=⟨Tame.refl w,rfl,fun _ _=>rfl⟩
theorem Fr.put{W:Nat→Prop}{f a:Act}{w0 w w':World}(h:Fr W f w0 a w){o:Oper}(g:∀d,o.dst=some d→W d)(v:Value)(i:Tame w w'):Fr W f w0 (a.put o.dst v) w':=by
 refine⟨h.tame.trans i,?_,fun t c=>?_⟩
 ·cases ho:o.dst<;>simp[Act.put,h.defers]
 ·cases ho:o.dst with
  |none=>exact h.same t c
  |some d=>
   have b:d≠t:=fun e=>c (e▸g d ho)
   rw[←h.same t c];simp[Act.put,eB b]
theorem Fr.trans{W:Nat→Prop}{e d a:Act}{w0 c b:World}(h:Fr W e w0 d c)(k:Fr W d c a b):Fr W e w0 a b:=
 ⟨h.tame.trans k.tame,k.defers.trans h.defers,fun t f=>(k.same t f).trans (h.same t f)⟩
theorem Fr.mono{W W':Nat→Prop}{b a:Act}{w0 w:World}(h:Fr W b w0 a w)(c:∀t,W t→W' t):Fr W' b w0 a w:=
 ⟨h.tame,h.defers,fun t d=>h.same t fun e=>d (c t e)⟩
theorem DecOk.known{d:tD}{r:cA}(h:DecOk d r){t:Nat}{dv:DV}{v:Value}(hv:EA dv v):DecOk ((t,dv)::d) ((t,v)::r):=fun s=>by
 by_cases e:t=s
 ·subst e
  have:pP ((t,dv)::d) t=dv:=by simp[pP]
  rw[this];exact .inr ⟨v,g6 t v r,hv⟩
 ·have a:pP ((t,dv)::d) s=pP d s:=by
   have:bF t s=false:=Bool.eq_false_iff.2 fun e'=>e (aZ e')
   show(bif bF t s then dv else pP d s)=_
   rw[this];rfl
  rw[a,gw v r e];exact h s
theorem Cd{N:Nat}{ek:Option (Kind×Kind)}{ops:Array Oper}{o:Oper}{i:Nat}{d:tD}{r:cA}{a:Act}{w:World}{b:Bool}{K:tD→cA→ad→Prop}{next:Act→World→Prop}{Q:Exit→Act→World→Prop}
  (hi:ops[i]? =some o) (q:iv ops.toList d o=some b) (g:Agree N r a) (hd:DecOk d r)
  (m:match b with
   |true=>Tg P N ek o r (K (qc d o (Hh d o.op))) w.heap
   |false=>xH N o undef r fun c=>K (qc d o .u) c w.heap)
  (k:∀v w' d' c,Tame w w'→K d' c w'.heap→Agree N c (a.put o.dst v)→DecOk d' c→next (a.put o.dst v) w'):
  wpOpIn (FW ro) n P ops Q i next a w:=by
 unfold wpOpIn;rw[hi];simp only[mp q g hd];cases b with
 |true=>exact MQ m g hd fun v w' c s p f e=>k v w' _ c s p f e
 |false=>
  obtain⟨c,j,f,e⟩:=rt (dv:=.u) m g hd rfl;exact⟨fun _ _=>trivial,k undef w _ c (Tame.refl w) j f e⟩
theorem MP{N:Nat}{ek:Option (Kind×Kind)}{ops:List Oper}{o:Oper}{os:List Oper}{d:tD}{K:cA→ad→Prop}{r:cA}{h:ad}:Cz P N ek ops (o::os) d K r h=
 (match iv ops d o with
 |some true=>Tg P N ek o r (fun a c=>Cz P N ek ops os (qc d o (Hh d o.op)) K a c) h
 |some false=>xH N o undef r fun a=>Cz P N ek ops os (qc d o .u) K a h
 |none=>match C5 ops o with
  |none=>False
  |some t=>match jE r t with
   |some (.bool b)=>CondP b
    (EO P N ek ops o ((t,.t)::d) ((t,.bool true)::r) h fun e a c=>Cz P N ek ops os e K a c)
    (EO P N ek ops o ((t,.f)::d) ((t,.bool false)::r) h fun e a c=>Cz P N ek ops os e K a c)
   |_=>False):=rfl
theorem EG{N:Nat}{ek:Option (Kind×Kind)}{ops:Array Oper}{o:Oper}{i:Nat}{d:tD}{r:cA}{a:Act}{w:World}{K:tD→cA→ad→Prop}{next:Act→World→Prop}{Q:Exit→Act→World→Prop}
  (hi:ops[i]? =some o) (e:Agree N r a) (hd:DecOk d r) (c:EO P N ek ops.toList o d r w.heap K)
  (f:∀v w' d' r',Tame w w'→K d' r' w'.heap→Agree N r' (a.put o.dst v)→DecOk d' r'→next (a.put o.dst v) w'):
  wpOpIn (FW ro) n P ops Q i next a w:=by
 unfold EO at c;cases hw:iv ops.toList d o with
 |none=>rw[hw]at c;exact c.elim
 |some b=>rw[hw]at c;exact Cd (ek:=ek) hi hw e hd (by cases b<;>exact c) f
theorem Cy{N:Nat}{ek:Option (Kind×Kind)}{ops:Array Oper}{W:Nat→Prop}(s:∀o∈ops.toList,∀d,o.dst=some d→W d){p:Act}{w0:World}{K:cA→ad→Prop}{Q:Exit→Act→World→Prop}
  (q:∀r a w,Agree N r a→Fr W p w0 a w→K r w.heap→Q .normal a w):
  ∀(l:List Oper) (i:Nat),ops.toList.drop i=l→∀(d:tD) (r:cA) (a:Act) (w:World),Cz P N ek ops.toList l d K r w.heap→Agree N r a→DecOk d r→Fr W p w0 a w→
   wpOpsIn (FW ro) n P ops Q (List.range' i l.length) a w
 | [],i,_,d,r,a,w,hs,ha,hd,hf=>q r a w ha hf hs
 |o::os,i,hdr,d,r,a,w,hs,ha,hd,hf=>by
  have hi:ops[i]? =some o:=by
   rw[←bp];have:(ops.toList.drop i)[0]? =some o:=by rw[hdr];rfl
   simpa using this
  have f:o∈ops.toList:=ay (by rw[bp];exact hi);have g:ops.toList.drop (i+1)=os:=by rw[←List.tail_drop,hdr];rfl
  rw[aN,List.range'_succ,wpOpsIn_cons];rw[MP]at hs;have k:∀v w' e c,Tame w w'→Cz P N ek ops.toList os e K c w'.heap→Agree N c (a.put o.dst v)→DecOk e c→wpOpsIn (FW ro) n P ops Q (List.range' (i+1) os.length) (a.put o.dst v) w':=
   fun v w' e c u x m j=>Cy s q os (i+1) g e c _ w' x m j (hf.put (s o f) v u)
  cases hw:iv ops.toList d o with
  |some b=>
   rw[hw]at hs;exact Cd (ek:=ek) (K:=fun e c y=>Cz P N ek ops.toList os e K c y) hi hw ha hd (by cases b<;>exact hs) k
  |none=>
   rw[hw]at hs;simp only at hs;split at hs
   ·exact hs.elim
   ·rename_i t u
    split at hs
    ·rename_i b hb
     cases b with
     |true=>exact EG hi (ha.known hb) (hd.known (dv:=.t) rfl) (hs.yes rfl) k
     |false=>exact EG hi (ha.known hb) (hd.known (dv:=.f) rfl) (hs.no rfl) k
    ·exact hs.elim
end Go.Lift
namespace Go.Lift
open Go
theorem yo(m i:Nat):tb m i=m.testBit i:=by
 have h:iP (Nat.shiftRight m i) 1=(m>>>i)&&&1:=rfl;unfold tb;rw[h,Nat.testBit_eq_decide_div_mod_eq,Nat.and_one_is_mod,Nat.shiftRight_eq_div_pow];cases hm:decide (m/2^i%2=1)with
 |true=>rw[of_decide_eq_true hm];rfl
 |false=>
  have a:=of_decide_eq_false hm;have:m/2^i%2=0:=by omega
  rw[this];rfl
theorem m8(a b i:Nat):(cO a b).testBit i=(a.testBit i||b.testBit i):=Nat.testBit_or a b i
theorem xK(i j:Nat):(gv i).testBit j=decide (i=j):=Nat.testBit_two_pow
theorem Az{a b:Nat}(h:bF (iP a b) 0=true)(t:Nat)(c:a.testBit t=true)(e:b.testBit t=true):False:=by
 have d:=aZ h;have:(iP a b).testBit t=(a.testBit t&&b.testBit t):=gO a b t;rw[d,c,e]at this;simp at this
theorem Rh{a b:Nat}(h:bF (iP a b) a=true)(t:Nat)(c:a.testBit t=true):b.testBit t=true:=by
 have d:=aZ h;have:(iP a b).testBit t=(a.testBit t&&b.testBit t):=gO a b t;rw[d,c]at this;simpa using this.symm
theorem wR(i:Nat):∀l:List Edge,(lQ l).testBit i=l.any fun e=>bF e.on i&&Region.binds .any e
 | []=>fI i
 |e::l=>by
  have a:=wR i l;have hc:lQ (e::l)=bif Region.binds .any e then cO (gv e.on) (lQ l)else lQ l:=rfl;rw[hc,List.any_cons,←a];cases hb:Region.binds .any e with
  |true=>
   rw[cond_true,m8,xK,Bool.and_true];congr 1
   cases hd:bF e.on i with
   |true=>simpa using aZ hd
   |false=>rw[decide_eq_false_iff_not];intro e';rw[e']at hd;simp at hd
  |false=>simp
theorem yZ(o:Oper)(i:Nat):(lQ o.after.toList).testBit i=iw o i:=wR i o.after.toList
theorem ym(t:Nat):∀l:List Operand,(kQ l).testBit t=true↔Operand.tmp t∈l
 | []=>by simp[show kQ []=0 from rfl]
 |o::l=>by
  have a:=ym t l;cases o with
  |tmp u=>
   have hc:kQ (.tmp u::l)=cO (gv u) (kQ l):=rfl;rw[hc,m8,xK,iG,a,au];simp[eq_comm]
  |const v=>
   have hc:kQ (.const v::l)=kQ l:=rfl;rw[hc,a,au];simp
  |global v=>
   have hc:kQ (.global v::l)=kQ l:=rfl;rw[hc,a,au];simp
  |func v=>
   have hc:kQ (.func v::l)=kQ l:=rfl;rw[hc,a,au];simp
theorem vz(o:Oper)(t:Nat):(mN o).testBit t=true↔o.dst=some t:=by
 unfold mN;cases o.dst with
 |none=>simp
 |some d=>simp[xK]
theorem Eg(ops:Array Oper)(o:Oper)(t:Nat):(np ops.toList o).testBit t=true↔t∈o.looksAt ops:=by
 unfold np Oper.looksAt;rw[m8,iG,ym,List.mem_append,List.mem_filterMap];refine or_congr ⟨fun h=>⟨_,h,rfl⟩,?_⟩ ?_
 ·rintro⟨x,hx,b⟩
  cases x<;>simp at b
  subst b;exact hx
 ·cases hg:o.guard with
  |none=>simp
  |some g=>
   obtain⟨j,a⟩:=g;simp only[bp];cases hj:ops[j]? with
   |none=>simp
   |some oj=>simp[vz]
variable {P:Program} {ro:Option Nat} {n:Nat} {ops:Array Oper} {Q:Exit→Act→World→Prop}
structure MsOk(ops:Array Oper)(ms:List DM):Prop where
 am:∀(i:Nat) (o:Oper) (m:DM),ops[i]? =some o→ms[i]? =some m→∀j,m.am.testBit j=iw o j
 lk:∀(i:Nat) (o:Oper) (m:DM),ops[i]? =some o→ms[i]? =some m→∀t,m.lk.testBit t=true↔t∈o.looksAt ops
 ds:∀(i:Nat) (o:Oper) (m:DM),ops[i]? =some o→ms[i]? =some m→∀t,m.ds.testBit t=true↔o.dst=some t
 len:ms.length=ops.size
 free:∀(i j:Nat) (m k:DM),ms[i]? =some m→ms[j]? =some k→m.fr.testBit j=true→j=i∨k.am.testBit i=true∨AA m k=true
 nosel:∀(i:Nat) (o:Oper),ops[i]? =some o→(∀cs b,o.op≠ .select cs b)∧(∀c,o.op≠ .defer c)
theorem yE(ops:List Oper):∀(l:List Oper) (ms:List DM),uY ops l ms=true→ms.length=l.length∧∀(i:Nat) (o:Oper) (m:DM),l[i]? =some o→ms[i]? =some m→
  m.am=lQ o.after.toList∧m.lk=np ops o∧m.ds=mN o
 | [],[],_=>⟨rfl,fun i o m h=>by simp at h⟩
 | [],_::_,h=>by cases h
 |o::l,[],h=>by cases h
 |o::l,m::ms,h=>by
  have hc:uY ops (o::l) (m::ms)=(bF (lQ o.after.toList) m.am&&bF (np ops o) m.lk&&bF (mN o) m.ds&&uY ops l ms):=rfl;rw[hc]at h;simp only[bC]at h;obtain⟨⟨⟨j,k⟩,g⟩,c⟩:=h;obtain⟨e,f⟩:=yE ops l ms c;refine⟨by simp[e],fun i d b a hm=>?_⟩
  cases i with
  |zero=>
   simp only[bW,bv.injEq]at a hm;subst a;subst hm;exact⟨(aZ j).symm,(aZ k).symm,(aZ g).symm⟩
  |succ i=>exact f i d b (by simpa using a) (by simpa using hm)
theorem Fm(i:Nat)(m:DM):∀(l:List DM) (j0:Nat),Fp i m l j0=true→∀(j:Nat) (k:DM),l[j]? =some k→m.fr.testBit (j0+j)=true→j0+j=i∨k.am.testBit i=true∨AA m k=true
 | [],j0,_,j,k,hk,_=>by simp at hk
 |x::l,j0,h,j,k,hk,hb=>by
  have hc:Fp i m (x::l) j0=((!(tb m.fr j0)||bF j0 i||tb x.am i||AA m x)&&Fp i m l (fJ j0)):=rfl
  rw[hc]at h;simp only[bC,iG,Bool.not_eq_true',yo]at h;cases j with
  |zero=>
   simp only[bW,bv.injEq]at hk;subst hk;simp only[Nat.add_zero]at hb⊢;rcases h.1 with((a|a)|a)|a
   ·rw[a]at hb;cases hb
   ·exact .inl (aZ a)
   ·exact .inr (.inl a)
   ·exact .inr (.inr a)
  |succ j=>
   have:=Fm i m l (j0+1) h.2 j k (by simpa using hk) (by rw[show j0+1+j=j0+(j+1) by omega];exact hb)
   rw[show j0+1+j=j0+(j+1) by omega]at this
   exact this
theorem Bf(a:List DM):∀(l:List DM) (i0:Nat),yK a l i0=true→∀(i:Nat) (m:DM),l[i]? =some m→Fp (i0+i) m a 0=true
 | [],i0,_,i,m,hm=>by simp at hm
 |x::l,i0,h,i,m,hm=>by
  have hc:yK a (x::l) i0=(Fp i0 x a 0&&yK a l (fJ i0)):=rfl;rw[hc,bC]at h;cases i with
  |zero=>simp only[bW,bv.injEq]at hm;subst hm;exact h.1
  |succ i=>
   have:=Bf a l (i0+1) h.2 i m (by simpa using hm);rw[show i0+1+i=i0+(i+1) by omega]at this
   exact this
theorem E5:∀(l:List Oper),H2 l=true→∀o∈l,(∀cs b,o.op≠ .select cs b)∧(∀c,o.op≠ .defer c)
 | [],_,o,a=>by cases a
 |x::l,h,o,a=>by
  simp only[H2,bC]at h;rcases au.1 a with rfl|a
  ·refine⟨fun cs b e=>?_,fun c e=>?_⟩
   ·rw[e]at h;cases h.1
   ·rw[e]at h;cases h.1
  ·exact E5 l h.2 o a
theorem J0{ms:List DM}(h:B6 ops.toList ms=true):MsOk ops ms:=by
 have hc:B6 ops.toList ms=(uY ops.toList ops.toList ms&&yK ms ms 0&&H2 ops.toList):=rfl;rw[hc]at h;simp only[bC]at h;obtain⟨⟨f,g⟩,e⟩:=h;obtain⟨c,b⟩:=yE ops.toList ops.toList ms f;refine⟨fun i o m a hm j=>?_,fun i o m a hm t=>?_,fun i o m a hm t=>?_,by simpa using c,fun i j m k hm d n=>?_,fun i o a=>?_⟩
 ·rw[(b i o m (by simpa using a) hm).1,yZ]
 ·rw[(b i o m (by simpa using a) hm).2.1,Eg]
 ·rw[(b i o m (by simpa using a) hm).2.2,vz]
 ·have:=Bf ms ms 0 g i m hm
  rw[aE]at this;have:=Fm i m ms 0 this j k d (by rwa [aE]);rwa [aE]at this
 ·exact E5 _ e o (ay (by rw[bp];exact a))
theorem PT{ms:List DM}(hm:MsOk ops ms){i j:Nat}{c a:Oper}{f g:DM}(hi:ops[i]? =some c) (k:ops[j]? =some a) (e:ms[i]? =some f) (b:ms[j]? =some g) (h:AA f g=true):
  (∀d,c.dst=some d→d∉a.looksAt ops)∧(∀d,c.dst=some d→a.dst≠some d)∧(∀d,a.dst=some d→d∉c.looksAt ops):=by
 unfold AA at h;rw[bC]at h;refine⟨fun d hd m=>?_,fun d hd n=>?_,fun d hd m=>?_⟩
 ·exact Az h.1 d ((hm.ds i c f hi e d).2 hd) (by rw[m8,(hm.lk j a g k b d).2 m,Bool.true_or])
 ·exact Az h.1 d ((hm.ds i c f hi e d).2 hd) (by rw[m8,(hm.ds j a g k b d).2 n,Bool.or_true])
 ·exact Az h.2 d ((hm.ds j a g k b d).2 hd) ((hm.lk i c f hi e d).2 m)
structure LsRel(ops:Array Oper)(ls:Nat)(listed:Array Bool):Prop where
 size:listed.size=ops.size
 bit:∀j,listed.getD j false=ls.testBit j
theorem LsRel.start:LsRel ops 0 (mP ops.size false):=⟨by simp,fun j=>by
 rw[fI,c5]
 by_cases h:j<ops.size<;>simp[h]⟩
theorem LsRel.put{ls:Nat}{listed:Array Bool}(h:LsRel ops ls listed){i:Nat}(hi:i<ops.size):LsRel ops (cO ls (gv i)) (listed.setIfInBounds i true):=by
 refine⟨by simp[h.size],fun j=>?_⟩
 rw[m8,xK,←h.bit];by_cases e:i=j
 ·subst e;simp[h.size,hi]
 ·simp[e,eB e]
theorem LsRel.unlisted{ls:Nat}{listed:Array Bool}(h:LsRel ops ls listed){i:Nat}(hi:i<ops.size):listed.getD i true=ls.testBit i:=by
 rw[←h.bit];have:i<listed.size:=by rw[h.size];exact hi
 simp[this]
theorem EW{ms:List DM}(hm:MsOk ops ms){ls:Nat}{listed:Array Bool}(h:LsRel ops ls listed){j:Nat}:j∈Region.ready .any ops listed↔∃m,ms[j]? =some m∧ls.testBit j=false∧EX m ls=true:=by
 rw[mem_ready];constructor
 ·rintro⟨i,o,n,g⟩
  have a:j<ops.size:=(cd.1 n).1;have d:j<ms.length:=by rw[hm.len];exact a
  refine⟨ms[j],af d,by rw[←h.unlisted a];exact i,?_⟩
  unfold EX;have:iP (ms[j]).am ls=(ms[j]).am:=by
   apply Nat.eq_of_testBit_eq;intro t;have f:(iP (ms[j]).am ls).testBit t=((ms[j]).am.testBit t&&ls.testBit t):=gO _ _ t;rw[f];cases ht:(ms[j]).am.testBit t with
   |false=>rfl
   |true=>
    rw[hm.am j o _ n (af d)]at ht;unfold iw at ht;obtain⟨e,k,c⟩:=ci.1 ht;simp only[bC]at c;have:=g e (by simpa using k) c.2;rw[aZ c.1,h.bit]at this;rw[this];rfl
  rw[this];exact qg _
 ·rintro⟨m,b,i,p⟩
  have a:j<ops.size:=by rw[←hm.len];exact(aW.1 b).1
  refine⟨by rw[h.unlisted a];exact i,ops[j],iz a,fun e k c=>?_⟩
  rw[h.bit];refine Rh p e.on ?_;rw[hm.am j _ m (iz a) b];unfold iw;exact ci.2 ⟨e,by simpa using k,by simp[c]⟩
theorem qr(ls:Nat):∀(l:List DM) (j0 j:Nat),j∈kT ls l j0↔∃k m,l[k]? =some m∧j=j0+k∧ls.testBit j=false∧EX m ls=true
 | [],j0,j=>by simp[show kT ls [] j0= []from rfl]
 |m::l,j0,j=>by
  have hc:kT ls (m::l) j0=bif !(tb ls j0)&&EX m ls then j0::kT ls l (fJ j0)else kT ls l (fJ j0):=rfl;have e:=qr ls l (j0+1) j;rw[hc,yo];have step:(∃k c,(m::l)[k]? =some c∧j=j0+k∧ls.testBit j=false∧EX c ls=true)↔(j=j0∧ls.testBit j0=false∧EX m ls=true)∨j∈kT ls l (j0+1):=by
   rw[e];constructor
   ·rintro⟨k,c,d,rfl,a,b⟩
    cases k with
    |zero=>simp only[bW,bv.injEq]at d;subst d;exact .inl ⟨rfl,a,b⟩
    |succ k=>exact .inr ⟨k,c,by simpa using d,by omega,a,b⟩
   ·rintro(⟨rfl,a,b⟩|⟨k,c,d,rfl,a,b⟩)
    ·exact⟨0,m,rfl,rfl,a,b⟩
    ·exact⟨k+1,c,by simpa using d,by omega,a,b⟩
  rw[step];cases hb:(!(ls.testBit j0)&&EX m ls)with
  |true=>
   simp only[bC,Bool.not_eq_true']at hb;rw[cond_true,au];simp[hb.1,hb.2]
  |false=>
   rw[cond_false];constructor
   ·exact .inr
   ·rintro(⟨_,a,b⟩|h)
    ·rw[a,b]at hb;cases hb
    ·exact h
theorem lG{ms:List DM}(hm:MsOk ops ms){ls:Nat}{listed:Array Bool}(h:LsRel ops ls listed){j:Nat}:j∈Region.ready .any ops listed↔j∈kT ls ms 0:=by
 rw[EW hm h,qr];constructor
 ·rintro⟨m,a,b,c⟩;exact⟨j,m,a,by omega,b,c⟩
 ·rintro⟨k,m,a,rfl,b,c⟩;exact⟨m,by simpa using a,b,c⟩
theorem vT:∀{a b:List Nat},tO a b=true→a=b
 | [],[],_=>rfl
 | [],_::_,h=>by cases h
 |_::_,[],h=>by cases h
 |a::as,b::bs,h=>by
  simp only[tO,bC]at h;rw[aZ h.1,vT h.2]
end Go.Lift
namespace Go.Lift
open Go
variable {P:Program} {ro:Option Nat} {n:Nat} {ops:Array Oper} {Q:Exit→Act→World→Prop}
theorem yk{m:Nat}{p:Nat→Bool}(hm:∀j,m.testBit j=true→p j=true):∀(l:List DM) (j0:Nat),(∀j x,l[j]? =some x→p (j0+j)=true→∀k,x.am.testBit k=true→p k=true)→∀k,(upM m l j0).testBit k=true→p k=true
 | [],_,_,k,h=>hm k h
 |x::l,j0,hl,k,h=>by
  have hc:upM m (x::l) j0=bif tb m j0 then cO x.am (upM m l (fJ j0))else upM m l (fJ j0):=rfl;have a:=yk hm l (j0+1) (fun j y c b=>hl (j+1) y (by simpa using c) (by rw[show j0+(j+1)=j0+1+j by omega];exact b)) k
  rw[hc,yo]at h;cases hb:m.testBit j0 with
  |true=>
   rw[hb,cond_true,m8,iG]at h;rcases h with h|h
   ·exact hl 0 x rfl (hm _ hb) k h
   ·exact a h
  |false=>
   rw[hb,cond_false]at h;exact a h
theorem yj{m k:Nat}(h:m.testBit k=true):∀(l:List DM) (j0:Nat),(upM m l j0).testBit k=true
 | [],_=>h
 |x::l,j0=>by
  have hc:upM m (x::l) j0=bif tb m j0 then cO x.am (upM m l (fJ j0))else upM m l (fJ j0):=rfl;have a:=yj h l (j0+1);rw[hc];cases tb m j0 with
  |true=>rw[cond_true,m8,iG];exact .inr a
  |false=>exact a
def Shut(ms:List DM)(listed:Array Bool):Prop:=∀j x,ms[j]? =some x→listed.getD j false=true→∀k,x.am.testBit k=true→listed.getD k false=true
theorem Ny{ms:List DM}{listed:Array Bool}(c:Shut ms listed){m:Nat}(hm:∀j,m.testBit j=true→listed.getD j false=true){k:Nat}(h:(yS ms m).testBit k=true):listed.getD k false=true:=by
 have a:∀j x,ms[j]? =some x→(fun k=>listed.getD k false) (0+j)=true→∀k,x.am.testBit k=true→(fun k=>listed.getD k false) k=true:=fun j x hx b=>c j x hx (by rw[aE]at b;exact b)
 unfold yS at h;exact yk (p:=fun k=>listed.getD k false) (yk (yk (yk hm ms 0 a) ms 0 a) ms 0 a) ms 0 a k h
theorem Fz{ms:List DM}{m k:Nat}(h:m.testBit k=true):(yS ms m).testBit k=true:=by
 unfold yS;exact yj (yj (yj (yj h ms 0) ms 0) ms 0) ms 0
noncomputable abbrev rel(ms:List DM)(i:Nat)(L:pG):pG:=yu (yS ms (GS ms i)) L
theorem jf{m:Nat}{x:Nat×(ad→Prop)}:∀{L:pG},x∈yu m L↔x∈L∧tb m x.1=false
 | []=>by simp[yu]
 |(k,S)::L=>by
  have b:=jf (m:=m) (x:=x) (L:=L);simp only[yu];cases hk:tb m k with
  |true=>
   rw[cond_true,b,au];constructor
   ·exact fun h=>⟨.inr h.1,h.2⟩
   ·rintro⟨h|h,a⟩
    ·subst h;rw[hk]at a;cases a
    ·exact⟨h,a⟩
  |false=>
   rw[cond_false,au,b,au];constructor
   ·rintro(h|h)
    ·subst h;exact⟨.inl rfl,hk⟩
    ·exact⟨.inr h.1,h.2⟩
   ·rintro⟨h|h,a⟩
    ·exact .inl h
    ·exact .inr ⟨h,a⟩
def N4(ms:List DM)(ro:Option Nat)(n:Nat)(P:Program)(ops:Array Oper)(Q:Exit→Act→World→Prop):Nat→pG→Array Bool→Act→World→Prop
 |0,_,listed,a,w=>Region.ready .any ops listed= []∧Q .normal a w
 |f+1,L,listed,a,w=>(Region.ready .any ops listed= []→Q .normal a w)∧
  ∀i∈Region.ready .any ops listed,∀o,ops[i]? =some o→
   wpOpIn (FW ro) n P ops Q i (fun a' w'=>(∀x∈rel ms i L,x.2 w'.heap)∧N4 ms ro n P ops Q f (rel ms i L) (listed.setIfInBounds i true) a' w') a w
theorem uX{o:Oper}{x:Nat×(ad→Prop)}:∀{L:pG},x∈nD o L↔x∈L∧iw o x.1=false
 | []=>by simp[nD]
 |(k,S)::L=>by
  have b:=uX (o:=o) (x:=x) (L:=L);simp only[nD];cases hk:iw o k with
  |true=>
   rw[cond_true,b,au];constructor
   ·exact fun h=>⟨.inr h.1,h.2⟩
   ·rintro⟨h|h,a⟩
    ·subst h;rw[hk]at a;cases a
    ·exact⟨h,a⟩
  |false=>
   rw[cond_false,au,b,au];constructor
   ·rintro(h|h)
    ·subst h;exact⟨.inl rfl,hk⟩
    ·exact⟨.inr h.1,h.2⟩
   ·rintro⟨h|h,a⟩
    ·exact .inl h
    ·exact .inr ⟨h,a⟩
theorem MY{listed:Array Bool}{i:Nat}(h:i∈Region.ready .any ops listed):∃o,ops[i]? =some o:=by
 obtain⟨_,o,a,_⟩:=mem_ready.1 h;exact⟨o,a⟩
theorem LD{ms:List DM}:∀(f:Nat) (L:pG) (listed:Array Bool) (a:Act) (w:World),N4 ms ro n P ops Q f L listed a w→wpAnyIn (FW ro) n P .any ops Q f listed a w
 |0,_,_,_,_,h=>h
 |f+1,L,listed,a,w,h=>⟨h.1,fun i hi=>by
  obtain⟨o,c⟩:=MY hi
  exact wpOpIn_mono (fun a' w' b=>LD f _ _ a' w' b.2) (h.2 i hi o c)⟩
theorem sH{ms:List DM}:∀(f:Nat) (L L':pG) (listed:Array Bool) (a:Act) (w:World),(∀x∈L',x∈L∨∀h,x.2 h)→N4 ms ro n P ops Q f L listed a w→N4 ms ro n P ops Q f L' listed a w
 |0,_,_,_,_,_,_,h=>h
 |f+1,L,L',listed,a,w,hs,h=>⟨h.1,fun i hi o d=>by
  have b:∀x∈rel ms i L',x∈rel ms i L∨∀h,x.2 h:=fun x hx=>(hs x (jf.1 hx).1).imp (fun h=>jf.2 ⟨h,(jf.1 hx).2⟩) id
  exact wpOpIn_mono (fun a' w' c=>⟨fun x hx=>(b x hx).elim (c.1 x) fun h=>h _,sH f _ _ _ a' w' b c.2⟩) (h.2 i hi o d)⟩
def YG(P:Program)(ops:Array Oper)(S:ad→Prop)(o:Oper)(v:Value)(a:Act):Prop:=
 (Region.wanted o (yielded ops a.tmps)=true∧∀w:World,S w.heap→(execOp a.eval o).run P w=.ok (.value v) w)∨
 (Region.wanted o (yielded ops a.tmps)=false∧v=undef)
theorem YG.wpOp{S:ad→Prop}{i:Nat}{o:Oper}{v:Value}{a:Act}(hi:ops[i]? =some o) (hd:∀c,o.op≠ .defer c) (e:YG P ops S o v a) {K:Act→World→Prop} {w:World} (d:S w.heap)
  (h:K (a.put o.dst v) w):wpOpIn (FW ro) n P ops Q i K a w:=by
 unfold wpOpIn;simp only[hi];rcases e with⟨b,hv⟩|⟨b,rfl⟩
 ·simp only[b,if_true]
  refine⟨fun _ _=>trivial,?_⟩
  rw[Oper.semAt_eq _ _ _ hd,hv w d];exact h
 ·simp only[b,Bool.false_eq_true,if_false];exact⟨fun _ _=>trivial,h⟩
theorem YG.of_same{S:ad→Prop}{o:Oper}{v:Value}{a a':Act}(d:YG P ops S o v a)(c:execOp a'.eval o=execOp a.eval o)
  (b:Region.wanted o (yielded ops a'.tmps)=Region.wanted o (yielded ops a.tmps)):YG P ops S o v a':=by
 unfold YG at*;rw[c,b];exact d
theorem Jl{S:ad→Prop}{j:Nat}{g i:Oper}{v:Value}(C:ops[j]? =some i)
  (z:(∀d,g.dst=some d→d∉i.looksAt ops)∧(∀d,g.dst=some d→i.dst≠some d)∧(∀d,i.dst=some d→d∉g.looksAt ops))
  (t:∀cs b,g.op≠ .select cs b) (A:∀cs b,i.op≠ .select cs b) (s:∀c,i.op≠ .defer c)
  (E:∀e a w,(∀c,e=.panic c→False)∨¬Q e a w) {K:Act→World→Prop} {a:Act} {w:World}
  (k:YG P ops S g v a) (h:wpOpIn (FW ro) n P ops Q j K (a.put g.dst v) w):
  wpOpIn (FW ro) n P ops Q j (fun a' w'=>YG P ops S g v a'∧K (a'.put g.dst v) w') a w:=by
 obtain⟨B,p,y⟩:=z;have o:∀c a w,¬Q (.panic c) a w:=fun c a w D=>(E (.panic c) a w).elim (fun h=>h c rfl) fun h=>h D
 have keep:∀(a:Act),YG P ops S g v a→∀u,YG P ops S g v (a.put i.dst u):=fun a k u=>
  k.of_same (execOp_put g t a i.dst u y) (wanted_put g a i.dst u y)
 unfold wpOpIn at*;simp only[C]at*;rw[wanted_put i a g.dst v B]at h;split
 ·rename_i hw
  simp only[hw,if_true]at h;refine⟨fun _ _=>trivial,?_⟩
  have h:=h.2;rw[Oper.semAt_eq _ _ _ s,execOp_put i A a g.dst v B]at h;rw[Oper.semAt_eq _ _ _ s];generalize (execOp a.eval i).run P w=r at*;cases r with
  |ok x w'=>
   cases x<;>simp only[Oper.uponIn]at h⊢
   case value u=>exact⟨keep a k u,by rw[←Act.put_comm a v u p];exact h⟩
   case skip=>exact⟨keep a k _,by rw[←Act.put_comm a v undef p];exact h⟩
   case defer d=>
    refine⟨(k.of_same (a':={a with defers:=d::a.defers}) rfl rfl).of_same (execOp_put g t _ i.dst undef y) (wanted_put g _ i.dst undef y),?_⟩;rw[←Act.put_comm _ v undef p,←Act.put_defers];exact h
   case enter f args=>
    refine⟨h.1,CallsIn.mono h.2 fun e q m=>?_⟩
    cases e with
    |returned u=>exact⟨keep a k u,by rw[←Act.put_comm a v u p];exact m⟩
    |panicked c=>exact(o _ _ _ m).elim
    |outgrown=>exact m
   case row row args=>exact⟨h.1,RowsIn.mono h.2 fun u q m=>⟨keep a k u,by rw[←Act.put_comm a v u p];exact m⟩⟩
   case round l f tmps assign body=>
    refine⟨h.1,RoundIn.mono h.2 fun e q m=>?_⟩
    cases e with
    |returned u=>exact⟨keep a k u,by rw[←Act.put_comm a v u p];exact m⟩
    |panicked c=>exact(o _ _ _ m).elim
    |outgrown=>exact m
  |halt x w'=>
   cases x<;>simp only[Oper.uponIn]at h⊢
   case panic u=>exact(o _ _ _ h).elim
 ·rename_i hw
  simp only[hw]at h;exact⟨fun _ _=>trivial,keep a k _,by rw[←Act.put_comm a v undef p];exact h.2⟩
theorem GR{ms:List DM}(hm:MsOk ops ms){i:Nat}{o:Oper}(a:ops[i]? =some o) (k:Nat):(GS ms i).testBit k=iw o k:=by
 have hi:i<ms.length:=by rw[hm.len];exact(cd.1 a).1
 unfold GS;rw[af hi];exact hm.am i o _ a (af hi) k
theorem HF{ms:List DM}(hm:MsOk ops ms){listed:Array Bool}{j:Nat}(d:j∈Region.ready .any ops listed)(k:Nat)(c:(GS ms j).testBit k=true):listed.getD k false=true:=by
 obtain⟨_,o,f,a⟩:=mem_ready.1 d;rw[GR hm f]at c;unfold iw at c;obtain⟨e,g,b⟩:=ci.1 c;simp only[bC]at b;have:=a e (by simpa using g) b.2;rw[aZ b.1]at this;exact this
theorem Ic{listed:Array Bool}{j k:Nat}(h:listed.getD k false=true):(listed.setIfInBounds j true).getD k false=true:=by
 by_cases e:j=k
 ·subst e
  rw[c5]at h⊢;rcases bH j listed.size with a|a
  ·simp[a]
  ·simp[j1 a]at h
 ·rw[c5,eB e,←c5]
  exact h
theorem Shut.put{ms:List DM}(hm:MsOk ops ms){listed:Array Bool}(d:Shut ms listed){j:Nat}(c:j∈Region.ready .any ops listed):Shut ms (listed.setIfInBounds j true):=by
 intro i x hx b k a;by_cases e:j=i
 ·subst e
  refine Ic (HF hm c k ?_);unfold GS;rw[hx];exact a
 ·rw[c5,eB e,←c5]at b
  exact Ic (d i x hx b k a)
theorem Ce{ms:List DM}(hm:MsOk ops ms){S:ad→Prop}{i:Nat}{t:Oper}{v:Value}(hi:ops[i]? =some t) (g:∀(j:Nat) (o:Oper),ops[j]? =some o→(∀cs b,o.op≠ .select cs b)∧(∀c,o.op≠ .defer c))
  (hQ:∀e a w,(∀c,e=.panic c→False)∨¬Q e a w):
  ∀(fuel:Nat) (L:pG) (listed:Array Bool) (a:Act) (w:World),
   (∀j q,ops[j]? =some q→j≠i→listed.getD j true=false→iw q i=false→
    (∀d,t.dst=some d→d∉q.looksAt ops)∧(∀d,t.dst=some d→q.dst≠some d)∧(∀d,q.dst=some d→d∉t.looksAt ops))→
   Shut ms listed→i∈Region.ready .any ops listed→YG P ops S t v a→S w.heap→(∀x∈L,x.2 w.heap)→
   N4 ms ro n P ops Q fuel ((i,S)::L) (listed.setIfInBounds i true) (a.put t.dst v) w→N4 ms ro n P ops Q (fuel+1) L listed a w:=by
 intro fuel;induction fuel with
 |zero=>
  intro L listed a w _ _ B T X Y H;refine⟨fun h=>(by rw[h]at B;cases B),fun j F q f=>?_⟩
  by_cases m:j=i
  ·subst m
   rw[hi]at f;cases f;exact T.wpOp hi (g _ _ hi).2 X ⟨fun x hx=>Y x (jf.1 hx).1,H⟩
  ·have:=ready_mono F m
   rw[H.1]at this;cases this
 |succ fuel ih=>
  intro L listed a w s O B T X Y H;refine⟨fun h=>(by rw[h]at B;cases B),fun j F q f=>?_⟩
  by_cases m:j=i
  ·subst m
   rw[hi]at f;cases f;exact T.wpOp hi (g _ _ hi).2 X ⟨fun x hx=>Y x (jf.1 hx).1,sH _ _ _ _ _ _ (fun x hx=>.inl (aR _ (jf.1 hx).1)) H⟩
  ·have p:=H.2 j (ready_mono F m) q f
   obtain⟨z,oj',A,N⟩:=mem_ready.1 F;rw[f]at A;cases A;have G:iw q i=false:=by
    cases y:iw q i with
    |false=>rfl
    |true=>
     unfold iw at y;obtain⟨e,he,y⟩:=ci.1 y;simp only[bC]at y;have p:=N e (by simpa using he) y.2;rw[aZ y.1]at p;have M:=(mem_ready.1 B).1;rcases bH i listed.size with C|C
     ·simp[C]at M p;rw[M]at p;cases p
     ·simp[j1 C]at p
   have D:tb (yS ms (GS ms j)) i=false:=by
    cases y:tb (yS ms (GS ms j)) i with
    |false=>rfl
    |true=>
     rw[yo]at y;have p:=Ny O (HF hm F) y;have M:=(mem_ready.1 B).1;rcases bH i listed.size with C|C
     ·simp[C]at M p;rw[M]at p;cases p
     ·simp[j1 C]at p
   have J:rel ms j ((i,S)::L)=(i,S)::rel ms j L:=by simp only[rel,yu,D,cond_false]
   rw[J]at p;have Z:=Jl f (s j q f m z G) (g _ _ hi).1 (g _ _ f).1 (g _ _ f).2 hQ T p;have u:∀k E,ops[k]? =some E→k≠i→(listed.setIfInBounds j true).getD k true=false→iw E i=false→
     (∀d,t.dst=some d→d∉E.looksAt ops)∧(∀d,t.dst=some d→E.dst≠some d)∧(∀d,E.dst=some d→d∉t.looksAt ops):=fun k E hk V I W=>by
    refine s k E hk V ?_ W;by_cases R:j=k
    ·subst R;exact z
    ·rw[getD_set_ne true R]at I;exact I
   refine wpOpIn_mono (fun a' w' K=>⟨fun x hx=>K.2.1 x (aR _ hx),ih (rel ms j L) (listed.setIfInBounds j true) a' w' u (O.put hm F) (ready_mono B (Ne.symm m)) K.1 (K.2.1 _ (az ..)) (fun x hx=>K.2.1 x (aR _ hx)) ?_⟩) Z
   rw[Array.setIfInBounds_comm _ _ m];exact K.2.2
theorem p5{h:ad}{R:Prop}:∀{L:pG},qu L h R↔(∀x∈L,x.2 h)∧R
 | []=>by simp[qu]
 |(k,S)::L=>by
  simp only[qu,p5 (L:=L),au,forall_eq_or_imp,and_assoc]
theorem N3{ms:List DM}{f:Nat}{L:pG}{listed:Array Bool}{a:Act}{w:World}(b:Region.ready .any ops listed= [])(h:Q .normal a w):N4 ms ro n P ops Q f L listed a w:=by
 cases f with
 |zero=>exact⟨b,h⟩
 |succ f=>exact⟨fun _=>h,by rw[b];simp⟩
def left(ops:Array Oper)(ls:Nat):Nat:=((cK ops.size).filter fun j=> !ls.testBit j).length
theorem uZ{ls i:Nat}(hi:i<ops.size)(f:ls.testBit i=false):left ops (cO ls (gv i))+1=left ops ls:=by
 have key:∀l:List Nat,l.Nodup→i∈l→(l.filter fun j=> !(cO ls (gv i)).testBit j).length+1=(l.filter fun j=> !ls.testBit j).length:=by
  intro l;induction l with
  |nil=>intro _ h;cases h
  |cons x l ih=>
   intro b hm;rw[List.nodup_cons]at b;by_cases hx:x=i
   ·subst hx
    have a:(l.filter fun j=> !(cO ls (gv x)).testBit j)=l.filter fun j=> !ls.testBit j:=by
     apply List.filter_congr;intro y g;have:x≠y:=fun e=>b.1 (e▸g)
     rw[m8,xK,decide_eq_false this,Bool.or_false]
    have d:(cO ls (gv x)).testBit x=true:=by rw[m8,xK];simp
    rw[cC,cC,d,f,a];rfl
   ·have c:i∈l:=by rcases au.1 hm with h|h;exact absurd h.symm hx;exact h
    have d:(cO ls (gv i)).testBit x=ls.testBit x:=by rw[m8,xK,decide_eq_false (Ne.symm hx),Bool.or_false]
    have:=ih b.2 c;rw[cC,cC,d];cases ls.testBit x with
    |true=>exact this
    |false=>exact congrArg (· +1) this
 exact key _ List.nodup_range (List.mem_range.2 hi)
theorem Np{N:Nat}{a:List Oper}{ms:List DM}{ls:Nat}{L:pG}{d:tD}{K:cA→ad→Prop}{r:cA}{b:ad}:∀{l:DA},mr P N a ms l true ls L d K r b→∃i,i∈Al l
 | .done,h=>h.elim
 | .take i rest,h=>by
  exfalso;have hc:mr P N a ms (.take i rest) true ls L d K r b=(match a[i]?,ms[i]? with|some _,some _=>False|_,_=>False):=rfl
  rw[hc]at h;split at h<;>exact h
 | .all _,h=>h.elim
 | .pick i _ _,_=>⟨i,az ..⟩
 | .last i _,_=>⟨i,az ..⟩
 | .lastT i _,_=>⟨i,az ..⟩
 | .split ..,h=>h.elim
def Ln(ro:Option Nat)(n:Nat)(P:Program)(ops:Array Oper)(Q:Exit→Act→World→Prop)(N:Nat)(ms:List DM)(W:Nat→Prop)(c:Act)(w0:World)(K:cA→ad→Prop)(b:DA):Prop:=
 ∀(m:Bool) (ls:Nat) (L:pG) (d:tD) (r:cA) (a:Act) (w:World) (listed:Array Bool) (fuel:Nat),
  mr P N ops.toList ms b m ls L d K r w.heap→Agree N r a→DecOk d r→Fr W c w0 a w→LsRel ops ls listed→Shut ms listed→(∀x∈L,x.2 w.heap)→
  (m=false→left ops ls≤fuel→N4 ms ro n P ops Q fuel L listed a w)∧
  (m=true→left ops ls≤fuel+1→∀i∈Al b,i∈kT ls ms 0→∀o,ops[i]? =some o→
   wpOpIn (FW ro) n P ops Q i (fun a' w'=>(∀x∈rel ms i L,x.2 w'.heap)∧N4 ms ro n P ops Q fuel (rel ms i L) (listed.setIfInBounds i true) a' w') a w)
theorem Hw{N:Nat}{ms:List DM}(hm:MsOk ops ms){W:Nat→Prop}(hW:∀o∈ops.toList,∀d,o.dst=some d→W d){a0:Act}{w0:World}{K:cA→ad→Prop}
  (hQ:∀r a w,Agree N r a→Fr W a0 w0 a w→K r w.heap→Q .normal a w)(hnp:∀e a w,(∀c,e=.panic c→False)∨¬Q e a w)(da:DA):
  Ln ro n P ops Q N ms W a0 w0 K da:=by
 have one:∀(i:Nat) (g:DA)
   (_:Ln ro n P ops Q N ms W a0 w0 K g)
   (ls:Nat) (L:pG) (d:tD) (r:cA) (a:Act) (w:World) (listed:Array Bool) (fuel:Nat),
   MR P N ops.toList i L d r w.heap (fun L' d' D h'=>mr P N ops.toList ms g false (cO ls (gv i)) L' d' K D h')→Agree N r a→DecOk d r→Fr W a0 w0 a w→LsRel ops ls listed→Shut ms listed→
   left ops ls≤fuel+1→i∈kT ls ms 0→∀o,ops[i]? =some o→
    wpOpIn (FW ro) n P ops Q i (fun a' w'=>(∀x∈rel ms i L,x.2 w'.heap)∧N4 ms ro n P ops Q fuel (rel ms i L) (listed.setIfInBounds i true) a' w') a w:=by
  intro i g X ls L d r a w listed fuel f z hd F B p y hr o s;have A:i<ops.size:=(cd.1 s).1;obtain⟨k,mm,hk,hki,J,_⟩:=(qr ls ms 0 i).1 hr;unfold MR at f;rw[bp,s]at f;simp only at f;cases hw:iv ops.toList d o with
  |none=>rw[hw]at f;exact f.elim
  |some b=>
   rw[hw]at f;cases b with
   |false=>exact f.elim
   |true=>
    simp only at f;cases hq:uA P o.op with
    |true=>
     rw[hq,cond_true]at f;unfold wpOpIn;rw[s];simp only[mp hw z hd,if_true];obtain⟨v,S,hK,hS,_,V⟩:=Ab z f d hd;refine o9 (K:=fun u h'=>u=v∧h'=w.heap) (A6 f) (.inl ⟨v,w,V w hS,Tame.refl w,rfl,rfl⟩) ?_
     rintro u w' ht ⟨rfl,hw'⟩;obtain⟨D,I,G,H⟩:=rt (dv:=.x) hK z hd trivial;obtain⟨hh,Y⟩:=p5.1 I;have C:o∈ops.toList:=ay (by rw[bp];exact s);have M:=uZ A J;have E:∀x∈rel ms i L,x∈nD o L:=fun x hx=>uX.2 ⟨(jf.1 hx).1,by
      cases hb:iw o x.1 with
      |false=>rfl
      |true=>
        have:=(jf.1 hx).2
        rw[yo,Fz (by rw[GR hm s];exact hb)]at this;cases this⟩
     rw[←hw']at hh Y;exact⟨fun x hx=>hh x (E x hx),sH _ _ _ _ _ _ (fun x hx=>.inl (E x hx)) ((X false _ _ _ D _ w' _ fuel Y G H (F.put (hW o C) u ht) (B.put A) (p.put hm ((lG hm B).2 hr)) hh).1 rfl (by omega))⟩
    |false=>
     rw[hq,cond_false]at f;unfold wpOpIn;rw[s];simp only[mp hw z hd,if_true];refine o9 (uP f) (zQ z f) ?_;intro v w' ht hK;obtain⟨D,I,G,H⟩:=rt (dv:=.x) hK z hd trivial;obtain⟨hh,Y⟩:=p5.1 I;have C:o∈ops.toList:=ay (by rw[bp];exact s);have M:=uZ A J;have E:∀x∈rel ms i L,x∈nD o L:=fun x hx=>uX.2 ⟨(jf.1 hx).1,by
      cases hb:iw o x.1 with
      |false=>rfl
      |true=>
        have:=(jf.1 hx).2
        rw[yo,Fz (by rw[GR hm s];exact hb)]at this;cases this⟩
     exact⟨fun x hx=>hh x (E x hx),sH _ _ _ _ _ _ (fun x hx=>.inl (E x hx)) ((X false _ _ _ D _ w' _ fuel Y G H (F.put (hW o C) v ht) (B.put A) (p.put hm ((lG hm B).2 hr)) hh).1 rfl (by omega))⟩
 have oneT:∀(i:Nat) (g:DA)
   (_:Ln ro n P ops Q N ms W a0 w0 K g)
   (ls:Nat) (L:pG) (d:tD) (r:cA) (a:Act) (w:World) (listed:Array Bool) (fuel:Nat),
   LR P N ops.toList ms i L d r w.heap (fun L' d' D h'=>mr P N ops.toList ms g false (cO ls (gv i)) L' d' K D h')→Agree N r a→DecOk d r→Fr W a0 w0 a w→LsRel ops ls listed→Shut ms listed→
   left ops ls≤fuel+1→i∈kT ls ms 0→∀o,ops[i]? =some o→
    wpOpIn (FW ro) n P ops Q i (fun a' w'=>(∀x∈rel ms i L,x.2 w'.heap)∧N4 ms ro n P ops Q fuel (rel ms i L) (listed.setIfInBounds i true) a' w') a w:=by
  intro i g X ls L d r a w listed fuel f z hd F B p y hr o s;have A:i<ops.size:=(cd.1 s).1;obtain⟨k,mm,hk,hki,J,_⟩:=(qr ls ms 0 i).1 hr;unfold LR at f;rw[bp,s]at f;simp only at f;cases hw:iv ops.toList d o with
  |none=>rw[hw]at f;exact f.elim
  |some b=>
   rw[hw]at f;cases b with
   |false=>exact f.elim
   |true=>
    simp only at f;cases hq:uA P o.op with
    |true=>rw[hq]at f;exact f.elim
    |false=>
     rw[hq,cond_false]at f;unfold wpOpIn;rw[s];simp only[mp hw z hd,if_true];refine o9 (uP f) (zQ z f) ?_;intro v w' ht hK;obtain⟨D,I,G,H⟩:=rt (dv:=.x) hK z hd trivial;obtain⟨hh,Y⟩:=p5.1 I;have C:o∈ops.toList:=ay (by rw[bp];exact s);have M:=uZ A J;exact⟨hh,(X false _ _ _ D _ w' _ fuel Y G H (F.put (hW o C) v ht) (B.put A) (p.put hm ((lG hm B).2 hr)) hh).1 rfl (by omega)⟩
 induction da with
 |done=>
  intro m ls L d r a w listed fuel f z hd F B p R;cases m with
  |true=>exact f.elim
  |false=>
   refine⟨fun _ _=>?_,fun h=>by cases h⟩
   have hc:mr P N ops.toList ms .done false ls L d K r w.heap=bif tO (kT ls ms 0) []then K r w.heap else False:=rfl;rw[hc]at f;cases hb:tO (kT ls ms 0) []with
   |false=>rw[hb]at f;exact f.elim
   |true=>
    rw[hb]at f;have hnil:Region.ready .any ops listed= []:=by
     apply List.eq_nil_iff_forall_not_mem.2;intro j O;rw[lG hm B,vT hb]at O;cases O
    exact N3 hnil (hQ r a w z F f)
 |take i g X=>
  intro m ls L d r a w listed fuel f z hd F B p R;cases m with
  |true=>
   exfalso;have hc:mr P N ops.toList ms (.take i g) true ls L d K r w.heap=(match ops.toList[i]?,ms[i]? with|some _,some _=>False|_,_=>False):=rfl
   rw[hc]at f;split at f<;>exact f
  |false=>
   refine⟨fun _ y=>?_,fun h=>by cases h⟩
   have hc:mr P N ops.toList ms (.take i g) false ls L d K r w.heap=(match ops.toList[i]?,ms[i]? with
    |some o,some mi=>bif Cr mi i ls ops.toList.length then
      (match iv ops.toList d o with
       |none=>False
       |some false=>xH N o undef r fun D=>mr P N ops.toList ms g false (cO ls (gv i)) L (qc d o .u) K D w.heap
       |some true=>bif uA P o.op then
          zN P none o.op r (fun v S=>xH N o v r fun D=>match S with
            |none=>mr P N ops.toList ms g false (cO ls (gv i)) L (qc d o (Hh d o.op)) K D w.heap
            |some S=>mr P N ops.toList ms g false (cO ls (gv i)) ((i,S)::L) (qc d o (Hh d o.op)) K D w.heap) w.heap
          else False)
     else False
    |_,_=>False):=rfl
   rw[hc]at f;split at f
   ·rename_i o mi s hmi
    rw[bp]at s;cases htk:Cr mi i ls ops.toList.length with
    |false=>rw[htk]at f;exact f.elim
    |true=>
     rw[htk,cond_true]at f;unfold Cr at htk;simp only[bC,Bool.not_eq_true',yo]at htk;obtain⟨⟨hun,hrd⟩,hfr⟩:=htk;have A:i<ops.size:=(cd.1 s).1;have q:i∈Region.ready .any ops listed:=(EW hm B).2 ⟨mi,hmi,hun,hrd⟩;have M:=uZ (ops:=ops) A hun;obtain⟨f',rfl⟩:∃f',fuel=f'+1:=⟨fuel-1,by omega⟩
     have C:o∈ops.toList:=ay (by rw[bp];exact s);have hcov:∀j,j<ops.size→ls.testBit j=true∨mi.fr.testBit j=true:=by
      intro j O;have h0:=aZ hfr;have hpb:(vL (gv ops.toList.length)).testBit j=true:=by
        have:vL (gv ops.toList.length)=2^ops.toList.length-1:=rfl;rw[this,Nat.testBit_two_pow_sub_one];simpa using O
      have hand:(iP (cO ls mi.fr) (vL (gv ops.toList.length))).testBit j=((cO ls mi.fr).testBit j&&(vL (gv ops.toList.length)).testBit j):=gO _ _ j;rw[h0,hpb,Bool.and_true,m8]at hand;exact(Bool.or_eq_true_iff).1 hand.symm
     have T:∀j oj,ops[j]? =some oj→j≠i→listed.getD j true=false→iw oj i=false→
        (∀d,o.dst=some d→d∉oj.looksAt ops)∧(∀d,o.dst=some d→oj.dst≠some d)∧(∀d,oj.dst=some d→d∉o.looksAt ops):=by
      intro j oj hoj hne hju hna;have O:j<ops.size:=(cd.1 hoj).1;rw[B.unlisted O]at hju;have hjm:j<ms.length:=by rw[hm.len];exact O
      have hmj:=af hjm;rcases hcov j O with h|h
      · rw[h]at hju;cases hju
      · rcases hm.free i j mi _ hmi hmj h with h|h|h
        ·exact absurd h hne
        ·rw[hm.am j oj _ hoj hmj,hna]at h;cases h
        ·exact PT hm s hoj hmi hmj h
     cases hw:iv ops.toList d o with
     |none=>rw[hw]at f;exact f.elim
     |some b=>
      rw[hw]at f;have hwd:=mp hw z hd;cases b with
      |false=>
        obtain⟨D,I,G,H⟩:=rt (dv:=.u) f z hd rfl;have hy:YG P ops (fun _=>True) o undef a:=.inr ⟨hwd,rfl⟩
        refine Ce hm s hm.nosel hnp f' L listed a w T p q hy trivial R ?_;refine sH _ L _ _ _ _ (fun x hx=>(au.1 hx).elim (fun e=>.inr fun h=>by rw[e];trivial) .inl) ?_
        exact(X false _ _ _ D _ w _ f' I G H (F.put (hW o C) undef (Tame.refl w)) (B.put A) (p.put hm q) R).1 rfl (by omega)
      |true=>
        simp only at f;cases hq:uA P o.op with
        |false=>rw[hq]at f;exact f.elim
        |true=>
         rw[hq,cond_true]at f;obtain⟨v,S,hK,hS,hdv,V⟩:=Ab z f d hd;obtain⟨D,I,G,H⟩:=rt hK z hd hdv;have hfr':=F.put (hW o C) v (Tame.refl w);cases S with
         |none=>
           have hy:YG P ops (fun _=>True) o v a:=.inl ⟨hwd,fun w _=>V w trivial⟩
           refine Ce hm s hm.nosel hnp f' L listed a w T p q hy trivial R ?_;refine sH _ L _ _ _ _ (fun x hx=>(au.1 hx).elim (fun e=>.inr fun h=>by rw[e];trivial) .inl) ?_
           exact(X false _ _ _ D _ w _ f' I G H hfr' (B.put A) (p.put hm q) R).1 rfl (by omega)
         |some S=>
           have hy:YG P ops S o v a:=.inl ⟨hwd,fun w h=>V w h⟩
           refine Ce hm s hm.nosel hnp f' L listed a w T p q hy hS R ?_;exact(X false _ _ _ D _ w _ f' I G H hfr' (B.put A) (p.put hm q) (fun x hx=>(au.1 hx).elim (fun e=>by rw[e];exact hS) (R x))).1 rfl (by omega)
   ·exact f.elim
 |all l X=>
  intro m ls L d r a w listed fuel f z hd F B p R;cases m with
  |true=>exact f.elim
  |false=>
   refine⟨fun _ y=>?_,fun h=>by cases h⟩
   have hc:mr P N ops.toList ms (.all l) false ls L d K r w.heap=bif tO (kT ls ms 0) (Al l)then mr P N ops.toList ms l true ls L d K r w.heap else False:=rfl;rw[hc]at f;cases hb:tO (kT ls ms 0) (Al l)with
   |false=>rw[hb]at f;exact f.elim
   |true=>
    rw[hb,cond_true]at f;obtain⟨i,hi⟩:=Np f;rw[←vT hb]at hi;have hrd:=(lG hm B (j:=i)).2 hi;obtain⟨k,mm,hk,hki,J,_⟩:=(qr ls ms 0 i).1 hi;have A:i<ops.size:=by
     have:=(aW.1 hk).1;rw[hm.len]at this;omega
    have M:=uZ (ops:=ops) A J;obtain⟨f',rfl⟩:∃f',fuel=f'+1:=⟨fuel-1,by omega⟩
    refine⟨fun h=>(by rw[h]at hrd;cases hrd),fun j O o s=>?_⟩
    have hj':=(lG hm B).1 O;exact(X true ls L d r a w listed f' f z hd F B p R).2 rfl y j (by rw[←vT hb];exact hj') hj' o s
 |pick i g more ih1 ih2=>
  intro m ls L d r a w listed fuel f z hd F B p R;cases m with
  |false=>exact f.elim
  |true=>
   refine⟨fun h=>(by cases h),fun _ y j O Z o s=>?_⟩
   have f:MR P N ops.toList i L d r w.heap (fun L' d' D h'=>mr P N ops.toList ms g false (cO ls (gv i)) L' d' K D h')∧mr P N ops.toList ms more true ls L d K r w.heap:=f
   rcases au.1 O with rfl|O
   ·exact one _ g ih1 ls L d r a w listed fuel f.1 z hd F B p y Z o s
   ·exact(ih2 true ls L d r a w listed fuel f.2 z hd F B p R).2 rfl y j O Z o s
 |last i g X=>
  intro m ls L d r a w listed fuel f z hd F B p R;cases m with
  |false=>exact f.elim
  |true=>
   refine⟨fun h=>(by cases h),fun _ y j O Z o s=>?_⟩
   have f:MR P N ops.toList i L d r w.heap (fun L' d' D h'=>mr P N ops.toList ms g false (cO ls (gv i)) L' d' K D h'):=f
   have hji:j=i:=aq.1 O;subst hji;exact one _ g X ls L d r a w listed fuel f z hd F B p y Z o s
 |lastT i g X=>
  intro m ls L d r a w listed fuel f z hd F B p R;cases m with
  |false=>exact f.elim
  |true=>
   refine⟨fun h=>(by cases h),fun _ y j O Z o s=>?_⟩
   have f:LR P N ops.toList ms i L d r w.heap (fun L' d' D h'=>mr P N ops.toList ms g false (cO ls (gv i)) L' d' K D h'):=f
   have hji:j=i:=aq.1 O;subst hji;exact oneT _ g X ls L d r a w listed fuel f z hd F B p y Z o s
 |split t yes no ih1 ih2=>
  intro m ls L d r a w listed fuel f z hd F B p R;cases m with
  |true=>exact f.elim
  |false=>
   refine⟨fun _ y=>?_,fun h=>by cases h⟩
   have hc:mr P N ops.toList ms (.split t yes no) false ls L d K r w.heap=(match jE r t with
    |some (.bool b)=>CondP b (mr P N ops.toList ms yes false ls L ((t,.t)::d) K ((t,.bool true)::r) w.heap) (mr P N ops.toList ms no false ls L ((t,.f)::d) K ((t,.bool false)::r) w.heap)
    |_=>False):=rfl
   rw[hc]at f;split at f
   ·rename_i b hlk
    cases b with
    |true=>exact(ih1 false ls L _ _ a w listed fuel (f.yes rfl) (z.known hlk) (hd.known rfl) F B p R).1 rfl y
    |false=>exact(ih2 false ls L _ _ a w listed fuel (f.no rfl) (z.known hlk) (hd.known rfl) F B p R).1 rfl y
   ·exact f.elim
end Go.Lift
namespace Go.Lift
open Go
variable {P:Program} {ro:Option Nat} {n:Nat}
theorem Fe{r:cA}:∀{l:List Nat} {r0:cA},L5 r l=some r0→∀t v,jE r0 t=some v→t∈l∧jE r t=some v
 | [],r0,h,t,v,hv=>by cases h;cases hv
 |s::l,r0,h,t,v,hv=>by
  have h:(match jE r s,L5 r l with|some v,some l=>some ((s,v)::l)|_,_=>none)=some r0:=h
  split at h
  ·rename_i u l' hu hl
   cases h;by_cases e:s=t
   ·subst e;rw[g6]at hv;cases hv;exact⟨az ..,hu⟩
   ·rw[gw u _ e]at hv
    have:=Fe hl t v hv;exact⟨aR _ this.1,this.2⟩
  ·cases h
theorem Ah{m:Nat}{t:Nat}{v:Value}:∀{r:cA},jE (ve m r) t=some v→m.testBit t=false∧jE r t=some v
 | [],h=>by cases h
 |(k,u)::r,h=>by
  have h:jE (bif tb m k then ve m r else(k,u)::ve m r) t=some v:=h;cases hk:tb m k with
  |true=>
   rw[hk]at h;have:=Ah h;by_cases e:k=t
   ·subst e;rw[yo,this.1]at hk;cases hk
   ·rw[gw u _ e];exact this
  |false=>
   rw[hk]at h;have h:jE ((k,u)::ve m r) t=some v:=h;by_cases e:k=t
   ·subst e;rw[g6]at h⊢;rw[yo]at hk;exact⟨hk,h⟩
   ·rw[gw u _ e]at h⊢;exact Ah h
theorem zP{t:Nat}:∀{l:List Oper},(N7 l).testBit t=false→¬kP t l=true
 | [],_,h=>by cases h
 |o::l,hm,h=>by
  have hm:(cO (mN o) (N7 l)).testBit t=false:=hm;rw[m8,lz]at hm;have h:(match o.dst with|some d=>bif bF d t then true else kP t l|none=>kP t l)=true:=h
  cases hd:o.dst with
  |none=>rw[hd]at h;exact zP hm.2 h
  |some d=>
   rw[hd]at h;cases e:bF d t with
   |true=>have:=(vz o t).2 (by rw[hd,aZ e]);rw[hm.1]at this;cases this
   |false=>simp only[e]at h;exact zP hm.2 h
theorem H1{a b:Option Nat}{m:Nat}(h:TI a b=some m):∃x y,a=some x∧b=some y∧m=cO x y:=by
 cases a<;>cases b<;>cases h
 exact⟨_,_,rfl,rfl,rfl⟩
theorem N6{t:Nat}(c:Code):∀{m:Nat},wI c=some m→m.testBit t=false→¬gb t c=true:=by
 induction c with
 |skip=>intro m _ _ h;cases h
 |region id ops dr=>intro m h hm d;cases h;exact zP hm d
 |seq a b iha ihb=>
  intro m h hm d;obtain⟨x,y,hx,e,rfl⟩:=H1 (show TI (wI a) (wI b)=some m from h)
  rw[m8,lz]at hm;have d:(bif gb t a then true else gb t b)=true:=d;cases ha:gb t a with
  |true=>exact iha hx hm.1 ha
  |false=>rw[ha]at d;exact ihb e hm.2 d
 |cond c a b iha ihb=>
  intro m h hm d;obtain⟨x,y,hx,e,rfl⟩:=H1 (show TI (wI a) (wI b)=some m from h)
  rw[m8,lz]at hm;have d:(bif gb t a then true else gb t b)=true:=d;cases ha:gb t a with
  |true=>exact iha hx hm.1 ha
  |false=>rw[ha]at d;exact ihb e hm.2 d
 |block id b ih=>exact fun h hm=>ih h hm
 |loop b ih=>exact fun h hm=>ih h hm
 |rangeFunc _ _ _ _ _ _=>intro m h;cases h
 |scope b ih=>exact fun h hm=>ih h hm
 |_=>intro m _ _ h;cases h
theorem Agree.keep{N:Nat}{r f:cA}{a a':Act}{w w':World}{m:Nat}{c:Code}(h:Agree N r a)(hm:wI c=some m)(b:Fr (fun t=>gb t c=true) a w a' w')(e:Agree N f a'):Agree N (ve m r) a':=
 ⟨e.size,fun t v hv=>by
  obtain⟨g,d⟩:=Ah hv
  rw[b.same t (N6 c hm g)];exact h.look t v d⟩
theorem uQ{a:St}{r:cA}{f:sU (xm a)→Prop}(h:AY a r f):∃t,Cu r a=some (me (xm a) t)∧f t:=by
 unfold AY at h;split at h
 ·rename_i vs hv
  obtain⟨t,rfl,b⟩:=qB h;exact⟨t,hv,b⟩
 ·exact h.elim
theorem Agree.zip{N:Nat}{r:cA}{a:Act}(h:Agree N r a):∀{st:St} {vs:List Value} {r0:cA},Cu r st=some vs→Agree N r0 a→Agree N (mJ st vs r0) a
 | [],vs,r0,_,h0=>by cases vs<;>exact h0
 |(i,k)::st,vs,r0,hv,h0=>by
  unfold Cu at hv;split at hv
  ·rename_i v vs' h1 h2
   cases hv;have:=Agree.zip h h2 h0;refine⟨this.size,fun t u b=>?_⟩
   by_cases e:i=t
   ·subst e
    rw[show mJ ((i,k)::st) (v::vs') r0=(i,v)::mJ st vs' r0 from rfl,g6]at b;cases b
    exact h.look i v h1
   ·rw[show mJ ((i,k)::st) (v::vs') r0=(i,v)::mJ st vs' r0 from rfl,gw v _ e]at b
    exact this.look t u b
  ·cases hv
theorem yg{t:Nat}:∀{l:List Oper} {o:Oper},o∈l→o.dst=some t→kP t l=true
 | [],_,h,_=>by cases h
 |x::l,o,h,hd=>by
  have e:kP t (x::l)=(match x.dst with|some d=>bif bF d t then true else kP t l|none=>kP t l):=rfl
  rw[e];rcases au.1 h with rfl|h
  ·rw[hd];simp only;rw[show bF t t=true from qg t];rfl
  ·have:=yg h hd
   cases x.dst with
   |none=>exact this
   |some d=>
    simp only;cases bF d t with
    |true=>rfl
    |false=>exact this
def LWP(ro:Option Nat)(n:Nat)(P:Program)(c:Code)(Q:Exit→Act→World→Prop)(a:Act)(w:World):Prop:=
 ∀(b:Frame) (k:List Item) (cs:List Frame),b.roundOf=(FW ro).round→(FW ro).fn b.fn→(FW ro).room (cs.length+1+n)→
  ∃e a' w',Q e a' w'∧ArrivesIn (Machine.fenced P (FW ro)) P (lone (b.atR a (.code c:: .inLoop c::k)) cs w) b k cs e a' w'
theorem LWP.step{c:Code}{Q:Exit→Act→World→Prop}{a:Act}{w:World}(h:c.wpIn (FW ro) n P (Exit.then (LWP ro n P c Q) Q) a w):LWP ro n P c Q a w:=by
 intro b k cs i p o;obtain⟨e,j,m,g,d⟩:=h b (.inLoop c::k) cs i p o;cases e with
 |normal=>
  obtain⟨u,t,s,q,f⟩:=g b k cs i p o;exact⟨u,t,s,q,.of_steps (StepsIn.trans d (.one (fenced_calm p o rfl) stepR_inLoop)) f⟩
 |exit id=>exact⟨_,j,m,g,.pass (x:=.inLoop c) rfl (fun _ _=>.inl (by simp)) d⟩
 |goto l=>exact⟨_,j,m,g,.pass (x:=.inLoop c) rfl (fun _ _=>.inl (by simp)) d⟩
 |ret=>exact⟨_,j,m,g,.pass (x:=.inLoop c) rfl (fun _ _=>.inl (by simp)) d⟩
 |panic ch=>exact⟨_,j,m,g,.pass (x:=.inLoop c) rfl (fun _ _=>.inl (by simp)) d⟩
 |outgrown=>exact⟨_,j,m,g,.pass (x:=.inLoop c) rfl (fun _ _=>.inl (by simp)) d⟩
theorem LWP.loop{c:Code}{Q:Exit→Act→World→Prop}{a:Act}{w:World}(h:LWP ro n P c Q a w):(Code.loop c).wpIn (FW ro) n P Q a w:=by
 intro b k cs f i g;obtain⟨e,a',w',j,d⟩:=h b k cs f i g;exact⟨e,a',w',j,.of_steps (.one (fenced_calm i g rfl) stepR_loop) d⟩
theorem Fw(r:cA):DecOk [] r:=fun _=>.inl rfl
theorem QW(ops:Array Oper)(ls:Nat):left ops ls≤ops.size:=by
 unfold left;exact Nat.le_trans (List.length_filter_le ..) (by simp)
theorem kR(f:P.follows .mixedOrders=true){N id:Nat}{ops:Array Oper}{g:Bool}{u:Ann}{K:cA→ad→Prop}{r:cA}{a:Act}{w:World}{Q:Exit→Act→World→Prop}
  (b:zV P N ops.toList g u K r w.heap)(k:Agree N r a)(q:∀c a w,¬Q (.panic c) a w)
  (i:∀r' a' w',Agree N r' a'→Fr (fun t=>kP t ops.toList=true) a w a' w'→K r' w'.heap→Q .normal a' w'):(Code.region id ops g).wpIn (FW ro) n P Q a w:=by
 have m:∀o∈ops.toList,∀d,o.dst=some d→kP d ops.toList=true:=fun o s d hd=>yg s hd
 cases g with
 |false=>
  have key:∀ek,Cz P N ek ops.toList ops.toList [] K r w.heap→(Code.region id ops false).wpIn (FW ro) n P Q a w:=fun ek b=>by
   refine wpIn_region ?_;rw[List.range_eq_range',show ops.size=ops.toList.length from rfl]
   exact Cy m i ops.toList 0 rfl [] r a w b k (Fw r) (Fr.refl _ a w)
  unfold zV at b;simp only at b;split at b
  ·exact key _ b
  ·exact key _ b
 |true=>
  unfold zV at b;simp only at b;generalize L0 ops.toList=ms at b;cases hm:B6 ops.toList ms with
  |false=>rw[hm]at b;exact b.elim
  |true=>
   rw[hm,cond_true]at b;refine wpIn_region_any f (LD (ms:=ms) _ [] _ _ _ ?_);have v:Tame w {w with drawn:=w.drawn+1}:=⟨rfl,rfl,rfl⟩;have p:Fr (fun t=>kP t ops.toList=true) a w a {w with drawn:=w.drawn+1}:=⟨v,rfl,fun _ _=>rfl⟩
   refine(Hw (J0 hm) m i (fun e a w=>?_) _ false 0 [] [] r a {w with drawn:=w.drawn+1} _ ops.size b k (Fw r) p LsRel.start (fun j x _ h=>by rw[(LsRel.start (ops:=ops)).bit,fI]at h;cases h) (fun x hx=>by cases hx)).1 rfl (QW ops 0)
   cases e with
   |panic ch=>exact .inr (q _ a w)
   |_=>exact .inl fun c hc=>by cases hc
theorem Cc(t:Nat)(x y:Code):gb t (.seq x y)=(bif gb t x then true else gb t y):=rfl
theorem AU(t:Nat)(c:Operand)(x y:Code):gb t (.cond c x y)=(bif gb t x then true else gb t y):=rfl
theorem GP{a b:Bool}:(bif a then true else b)=true↔a=true∨b=true:=by cases a<;>cases b<;>decide
theorem qY(u:P.follows .mixedOrders=true){N:Nat}(c:Code):∀(D:Ann) (Kn:cA→ad→Prop) (Kx:Ex→cA→ad→Prop) (r:cA) (a:Act) (w:World) (Q:Exit→Act→World→Prop),
  j2 P N c D Kn Kx r w.heap→Agree N r a→(∀O a w,¬Q (.panic O) a w)→
  (∀g a' w',Agree N g a'→Fr (fun t=>gb t c=true) a w a' w'→Kn g w'.heap→Q .normal a' w')→
  (∀i g a' w',Agree N g a'→Fr (fun t=>gb t c=true) a w a' w'→Kx (.exit i) g w'.heap→Q (.exit i) a' w')→
  (∀g a' w',Agree N g a'→Fr (fun t=>gb t c=true) a w a' w'→Kx .ret g w'.heap→Q .ret a' w')→
  c.wpIn (FW ro) n P Q a w:=by
 induction c with
 |skip=>
  intro D Kn Kx r a w Q j s _ z _ _;exact wpIn_skip (z r a w s (Fr.refl ..) j)
 |region id ops dr=>
  intro D Kn Kx r a w Q j s A z _ _;cases D with
  |reg keep inner=>
   have j:zV P N ops.toList dr inner (fun g K=>match L5 g keep with|some r0=>Kn r0 K|none=>False) r w.heap:=j
   refine kR u j s A fun g a' w' M V hk=>?_
   split at hk
   ·rename_i r0 hr0
    refine z r0 a' w' ⟨M.size,fun t v hv=>M.look t v (Fe hr0 t v hv).2⟩ V hk
   ·exact hk.elim
  |nil=>exact kR u (show zV P N ops.toList dr (.nil) Kn r w.heap from j) s A z
  |node x y=>exact kR u (show zV P N ops.toList dr (.node x y) Kn r w.heap from j) s A z
  |join st x y=>exact kR u (show zV P N ops.toList dr (.join st x y) Kn r w.heap from j) s A z
  |loop st y=>exact kR u (show zV P N ops.toList dr (.loop st y) Kn r w.heap from j) s A z
  |draw d=>exact kR u (show zV P N ops.toList dr (.draw d) Kn r w.heap from j) s A z
  |kinds k v=>exact kR u (show zV P N ops.toList dr (.kinds k v) Kn r w.heap from j) s A z
  |rf ks x y=>exact kR u (show zV P N ops.toList dr (.rf ks x y) Kn r w.heap from j) s A z
 |seq x y ihx ihy=>
  intro D Kn Kx r a w Q j s A z hx F;have E:∀{a' w'},Fr (fun t=>gb t x=true) a w a' w'→Fr (fun t=>gb t (.seq x y)=true) a w a' w':=fun h=>h.mono fun t S=>by rw[Cc,GP];exact .inl S
  have C:∀{a' w' I H},Fr (fun t=>gb t x=true) a w a' w'→Fr (fun t=>gb t y=true) a' w' I H→Fr (fun t=>gb t (.seq x y)=true) a w I H:=
   fun h k=>(E h).trans (k.mono fun t S=>by rw[Cc,GP];exact .inr S)
  have plain:∀X R,j2 P N x X (fun g K=>j2 P N y R Kn Kx g K) Kx r w.heap→(Code.seq x y).wpIn (FW ro) n P Q a w:=fun X R j=>by
   refine wpIn_seq (ihx X _ Kx r a w _ j s (fun O a w=>A O a w) ?_ (fun i g a' w' q p o=>hx i g a' w' q (E p) o) (fun g a' w' q p o=>F g a' w' q (E p) o))
   intro r1 W Z G B L;exact ihy R Kn Kx r1 W Z Q L G A (fun g a' w' q p o=>z g a' w' q (C B p) o) (fun i g a' w' q p o=>hx i g a' w' q (C B p) o) (fun g a' w' q p o=>F g a' w' q (C B p) o)
  cases D with
  |join st X R=>
   have j:(match wI x with
      |none=>False
      |some m=>Join (T:=sU (xm st)) (fun t K=>j2 P N y R Kn Kx (mJ st (me (xm st) t) (ve m r)) K)
       fun J=>j2 P N x X (fun g K=>AY st g fun t=>J t K) Kx r w.heap):=j
   split at j
   ·exact j.elim
   ·rename_i m hm
    refine wpIn_seq (ihx X _ Kx r a w _ j.run s (fun O a w=>A O a w) ?_ (fun i g a' w' q p o=>hx i g a' w' q (E p) o) (fun g a' w' q p o=>F g a' w' q (E p) o))
    intro r1 W Z G B L;obtain⟨t,hst,hs2⟩:=uQ L;have ha2:Agree N (mJ st (me (xm st) t) (ve m r)) W:=G.zip hst (s.keep hm B G);exact ihy R Kn Kx _ W Z Q hs2 ha2 A (fun g a' w' q p o=>z g a' w' q (C B p) o) (fun i g a' w' q p o=>hx i g a' w' q (C B p) o) (fun g a' w' q p o=>F g a' w' q (C B p) o)
  |_=>exact plain _ _ j
 |cond c x y ihx ihy=>
  intro D Kn Kx r a w Q j s A z hx F;have j:(match dh r c with
   |some (.bool t)=>CondP t (j2 P N x D.l Kn Kx r w.heap) (j2 P N y D.r Kn Kx r w.heap)
   |_=>False):=j
  have E:∀{a' w'},Fr (fun t=>gb t x=true) a w a' w'→Fr (fun t=>gb t (.cond c x y)=true) a w a' w':=fun h=>h.mono fun t S=>by rw[AU,GP];exact .inl S
  have C:∀{a' w'},Fr (fun t=>gb t y=true) a w a' w'→Fr (fun t=>gb t (.cond c x y)=true) a w a' w':=fun h=>h.mono fun t S=>by rw[AU,GP];exact .inr S
  split at j
  ·rename_i t S
   refine wpIn_cond_split (jF s S) (fun e=>?_) (fun e=>?_)
   ·exact ihx _ Kn Kx r a w Q (j.yes e) s A (fun g a' w' q p o=>z g a' w' q (E p) o) (fun i g a' w' q p o=>hx i g a' w' q (E p) o) (fun g a' w' q p o=>F g a' w' q (E p) o)
   ·exact ihy _ Kn Kx r a w Q (j.no e) s A (fun g a' w' q p o=>z g a' w' q (C p) o) (fun i g a' w' q p o=>hx i g a' w' q (C p) o) (fun g a' w' q p o=>F g a' w' q (C p) o)
  ·exact j.elim
 |block id b ih=>
  intro D Kn Kx r a w Q j s A z hx F;refine wpIn_block (ih D Kn _ r a w _ j s (fun O a w=>A O a w) z (fun i g a' w' q p o=>?_) F)
  simp only[Exit.inBlock]at o⊢;cases hi:bF i id with
  |true=>
   rw[hi,cond_true]at o;rw[if_pos (aZ hi)];exact z g a' w' q p o
  |false=>
   rw[hi,cond_false]at o;rw[if_neg (fun e=>by rw[e,qg]at hi;cases hi)]
   exact hx i g a' w' q p o
 |loop b ih=>
  intro D Kn Kx r a w Q j s A z hx F;cases D with
  |loop st R=>
   have j:(match wI b with
      |none=>False
      |some m=>AY st r fun t0=>LoopP (T:=sU (xm st)) (fun self t K=>j2 P N b R (fun g h''=>AY st g fun t'=>self t' h'') Kx (mJ st (me (xm st) t) (ve m r)) K) t0 w.heap):=j
   split at j
   ·exact j.elim
   ·rename_i m hm
    obtain⟨t0,hst0,hl⟩:=uQ j;have h0:=hl.run (fun t K=>∀a' w',w'.heap=K→Agree N (mJ st (me (xm st) t) (ve m r)) a'→Fr (fun t=>gb t b=true) a w a' w'→LWP ro n P b Q a' w') (fun t K hF a' w' hw M V=>by
     subst hw
     refine LWP.step (ih R _ Kx _ a' w' _ hF M (fun O a w=>A O a w) ?_ (fun i g I H q p o=>hx i g I H q (V.trans p) o) (fun g I H q p o=>F g I H q (V.trans p) o))
     intro r1 W Z G B L
     obtain⟨t1,Y,hk1⟩:=uQ L
     exact hk1 W Z rfl (G.zip Y (s.keep hm (V.trans B) G)) (V.trans B))
    exact LWP.loop (h0 a w rfl (s.zip hst0 (s.keep hm (Fr.refl _ a w) s)) (Fr.refl _ a w))
  |_=>exact j.elim
 |rangeFunc f params assign body _ _=>intro D Kn Kx r a w Q j;exact j.elim
 |exit id=>
  intro D Kn Kx r a w Q j s A z hx F;exact wpIn_exit (hx id r a w s (Fr.refl ..) j)
 |scope b _=>intro D Kn Kx r a w Q j;exact j.elim
 |label l=>
  intro D Kn Kx r a w Q j s A z hx F;exact wpIn_label (z r a w s (Fr.refl ..) j)
 |goto l=>intro D Kn Kx r a w Q j;exact j.elim
 |ret=>
  intro D Kn Kx r a w Q j s A z hx F;exact wpIn_ret (F r a w s (Fr.refl ..) j)
 |refuse why=>intro D Kn Kx r a w Q j;exact j.elim
end Go.Lift
namespace Go.Lift
open Go
variable {P:Program}
theorem oW{N:Nat}{r:cA}{a:Act}{w:World}(d:Agree N r a):∀{l:List ResultVar} {K:List Value→Prop},mK P r w.heap l K→
  ∃vs,(∀g:ResultVar→Sem Value,(∀t,g (.tmp t)=pure (a.tmps.getD t undef))→(∀x t,g (.cell x t)=do loadVar t (←asAddr (a.tmps.getD x undef)))→(l.mapM g).run P w=.ok vs w)∧K vs
 | [],K,h=>⟨[],fun g _ _=>by rw[List.mapM_nil];rfl,h⟩
 | .tmp t::l,K,h=>by
  unfold mK at h;split at h
  ·rename_i v hv
   obtain⟨vs,f,i⟩:=oW d h;refine⟨v::vs,fun g c e=>?_,i⟩
   rw[List.mapM_cons,c];simp only[Sem.run_bind,Sem.run_pure,Result.andThen_ok];rw[f g c e];simp only[Result.andThen_ok,d.look t v hv]
  ·exact h.elim
 | .cell x t::l,K,h=>by
  unfold mK at h;split at h
  ·rename_i v hv
   obtain⟨u,S,m,k,n⟩:=A7 h;obtain⟨vs,f,i⟩:=oW d m;refine⟨u::vs,fun g c e=>?_,i⟩
   rw[List.mapM_cons,e];have j:(do loadVar t (←asAddr (a.tmps.getD x undef)):Sem Value).run P w=.ok u w:=by
    rw[d.look x v hv];unfold HH at h;cases v with
    |pointer p=>cases p with
     |none=>exact h.elim
     |some b=>exact n w k
    |_=>exact h.elim
   simp only[Sem.run_bind]at j⊢;rw[j];simp only[Result.andThen_ok];rw[f g c e];simp only[Sem.run_pure,Result.andThen_ok]
  ·exact h.elim
theorem EV(ks:List Kind)(t:sU ks):(if h:(me ks t).toArray.size=1 then(me ks t).toArray[0]else Value.tuple (me ks t).toArray)=BF ks (me ks t):=by
 match ks,t with
 | [],t=>rfl
 | [k],t=>rfl
 |k::l::ks,(x,t)=>
  have:(me (k::l::ks) (x,t)).length=(k::l::ks).length:=rq _ _;rw[dif_neg (by simp only[cP,this,aN];omega)];rfl
theorem uj:∀(vs:List Value) (i t:Nat) (v:Value),jE (o5 i vs) t=some v→i≤t∧vs[t-i]? =some v
 | [],i,t,v,h=>by cases h
 |u::vs,i,t,v,h=>by
  by_cases e:i=t
  ·subst e
   rw[show o5 i (u::vs)=(i,u)::o5 (i+1) vs from rfl,g6]at h
   cases h;exact⟨Nat.le_refl _,by simp⟩
  ·rw[show o5 i (u::vs)=(i,u)::o5 (i+1) vs from rfl,gw u _ e]at h
   obtain⟨b,a⟩:=uj vs (i+1) t v h;refine⟨by omega,?_⟩;rw[show t-i=(t-(i+1))+1 by omega,List.getElem?_cons_succ]
   exact a
theorem Mu(d:P.follows .mixedOrders=true){n:Nat}{fn:Func}{c:Code}{o:Ann}{args:List Value}{ks:List Kind}{K:sU ks→ad→Prop}{w:World}(m:args.length≤fn.ntmps)(s:CA P fn c o args ks K w.heap):
  c.wpIn (FW none) n P (bodyPost P fn fun e w'=>Tame w w'∧∃t:sU ks,e=.returned (BF ks (me ks t))∧K t w'.heap) {tmps:=args.toArray++mP (fn.ntmps-args.toArray.size) undef,defers:= []} w:=by
 have u:Agree fn.ntmps (o5 0 args) {tmps:=args.toArray++mP (fn.ntmps-args.toArray.size) undef,defers:= []}:=by
  refine⟨by simp;omega,fun t v hv=>?_⟩
  obtain⟨_,i⟩:=uj args 0 t v hv;simp only[eT]at i;have f:=(aW.1 i).1;simp[Array.getElem?_append,f];rw[af f]at i;cases i;rfl
 have fin:∀j a' (w':World),Agree fn.ntmps j a'→Fr (fun t=>gb t c=true) {tmps:=args.toArray++mP (fn.ntmps-args.toArray.size) undef,defers:= []} w a' w'→
   mK P j w'.heap fn.results.toList (fun vs=>BL ks vs fun t=>K t w'.heap)→
   a'.defers= []∧∃v,(results fn a'.tmps).run P w'=.ok v w'∧(Tame w w'∧∃t:sU ks,Ending.returned v=.returned (BF ks (me ks t))∧K t w'.heap):=fun j a' w' k b q=>by
  obtain⟨vs,g,hd⟩:=oW k q;obtain⟨t,rfl,p⟩:=qB hd;refine⟨b.defers,_,?_,b.tame,t,rfl,p⟩;unfold results;rw[l8];simp only[Sem.run_bind,Sem.run_map];rw[g _ (fun _=>rfl) (fun _ _=>rfl)]
  simp only[Result.andThen_ok,Sem.run_pure];rw[←EV]
 exact qY d c o _ _ _ _ w _ s u (fun x a w h=>h.2.2.elim fun _ h=>by cases h.1) fin (fun _ _ _ _ _ _ h=>h.elim) fin
theorem HE.intro(d:P.follows .mixedOrders=true){f:FuncId}{fn:Func}{c:Code}{j:Ann}{args:List Value}{ks:List Kind}{K:sU ks→ad→Prop}{h:ad}
  (e:P.funcs[f]? =some fn) (i:fn.body=some c) (a:∀(args:Array Value) (w:World),(callFunc f args).run P w=.ok (.enter f args) w) (b:args.length≤fn.ntmps)
  (k:CA P fn c j args ks K h):HE P f args ks K h:=by
 refine⟨fun w g=>⟨a,?_⟩⟩
 subst g;exact(callsIn_wide (n:=0)).1 (callsIn_of_wp (F:=FW none) e i trivial (Mu d b k) rfl)
theorem HD.intro(d:P.follows .mixedOrders=true){f:FuncId}{fn:Func}{c:Code}{p:Ann}{args:List Value}{ks:List Kind}{K:ad→Prop}{h:ad}
  (g:P.funcs[f]? =some fn) (j:fn.body=some c) (a:∀(args:Array Value) (w:World),(callFunc f args).run P w=.ok (.enter f args) w) (b:args.length≤fn.ntmps)
  (q:CA P fn c p args ks (fun _ h'=>K h') h):HD P f args K h:=by
 refine fun w k=>⟨a,fun n=>?_⟩
 subst k;exact(callsDIn_of_wp (F:=FW none) g j trivial (Mu d b q) rfl).mono fun e u w' ⟨i,s,t,o,m⟩=>⟨i,s,⟨_,o⟩,m⟩
theorem HC.intro(d:P.follows .mixedOrders=true){f:FuncId}{fn:Func}{c:Code}{i:Ann}{args:List Value}{ks:List Kind}{K:sU ks→ad→Prop}{h:ad}
 (e:P.funcs[f]? =some fn) (g:fn.body=some c) (a:∀(args:Array Value) (w:World),(callFunc f args).run P w=.ok (.enter f args) w) (b:args.length≤fn.ntmps)
 (j:CA P fn c i args ks K h):HC P f args ks K h:=(HE.intro d e g a b j).hc
theorem KV{N:Nat}{args:List Value}(c:args.length≤N):Agree N (o5 0 args) {tmps:=args.toArray++mP (N-args.toArray.size) undef,defers:= []}:=by
 refine⟨by simp;omega,fun t v hv=>?_⟩
 obtain⟨_,b⟩:=uj args 0 t v hv;simp only[eT]at b;have a:=(aW.1 b).1;simp[Array.getElem?_append,a];rw[af a]at b;cases b;rfl
theorem HB{N:Nat}{fn:Func}{ks:List Kind}{K:sU ks→ad→Prop}{c:cA}{a':Act}{w':World}(b:Agree N c a')(e:mK P c w'.heap fn.results.toList (fun vs=>BL ks vs fun t=>K t w'.heap)):
  ∃t:sU ks,(results fn a'.tmps).run P w'=.ok (BF ks (me ks t)) w'∧K t w'.heap:=by
 obtain⟨vs,a,hd⟩:=oW b e;obtain⟨t,rfl,d⟩:=qB hd;refine⟨t,?_,d⟩;unfold results;rw[l8];simp only[Sem.run_bind,Sem.run_map];rw[a _ (fun _=>rfl) (fun _ _=>rfl)]
 simp only[Result.andThen_ok,Sem.run_pure];rw[←EV]
end Go.Lift
namespace Go.Lift
open Go
variable {P:Program}
abbrev CU(D:Nat):Deferred:={target:=.collected D,args:= #[]}
abbrev oG:Mk→Deferred
 | .it D=>CU D
 | .call f vs=>{target:=.fn (.func f) #[],args:= #[]++vs.toArray}
theorem Dw{N:Nat}:∀{ps:List Nat} {vs:List Value} {r:cA} {tmps:Array Value},xx N ps=true→Agree N r {tmps:=tmps,defers:= []}→
  Agree N (Qj ps vs r) {tmps:=(ps.zip vs).foldl (fun t x=>t.setIfInBounds x.1 x.2) tmps,defers:= []}
 | [],vs,r,tmps,_,h=>by cases vs<;>exact h
 |i::ps,[],r,tmps,_,h=>h
 |i::ps,v::vs,r,tmps,a,h=>by
  have a:(wm i N&&xx N ps)=true:=a;rw[bC]at a;have b:i<N:=by simpa using a.1
  have:=h.put i v b;exact Dw (tmps:=tmps.setIfInBounds i v) a.2 this
theorem Cq(w:World)(o:Obj):Tame w (w.alloc o):=⟨rfl,rfl,rfl⟩
theorem nn(w:World)(b:Nat)(o:Obj):Tame w (w.putObj b o):=⟨rfl,rfl,rfl⟩
theorem HN(w:World)(b:Nat)(o:Obj):(w.putObj b o).heap=w.heap.setIfInBounds b o:=rfl
theorem MA(ps:Array Nat)(vs:List Value)(t:Array Value):(ps.zip vs.toArray).foldl (fun t (x:Nat×Value)=>t.setIfInBounds x.1 x.2) t=(ps.toList.zip vs).foldl (fun t x=>t.setIfInBounds x.1 x.2) t:=by
 obtain⟨l⟩:=ps;simp
theorem BG(B:P.follows .mixedOrders=true){n N:Nat}{g:Operand}{ps:Array Tmp}{assign body:Code}{aa ab:Ann}{ks:List Kind}{fv:Value}{r:cA}{a:Act}{w:World}{Q:Exit→Act→World→Prop}
  {KN:ad→Prop}{KX:Nat→ad→Prop}{KR:ad→Prop}(T:xx N ps.toList=true)(M:ps.toList.length=ks.length)(hg:dh r g=some fv)(Y:Agree N r a)
  (hR:RangeP P fv ks w.heap (fun EX bz x k h'=>Jv P N ps.toList ks assign body (.node aa ab) r (w.heap.size+1) EX bz x k h') KN KX KR)
  (hn:∀w',Tame w w'→KN w'.heap→Q .normal {a with defers:=CU w.heap.size::a.defers} w')
  (hx:∀i w',Tame w w'→KX i w'.heap→Q (.exit i) {a with defers:=CU w.heap.size::a.defers} w')
  (hr:∀w',Tame w w'→KR w'.heap→Q .ret {a with defers:=CU w.heap.size::a.defers} w'):(Code.rangeFunc g ps assign body).wpIn (FW none) n P Q a w:=by
 refine wpIn_rangeFunc fun fn _=>?_
 obtain⟨lo,p⟩:∃lo:LoopState→Option Ex→Obj,lo=fun s j=>.loop {state:=s,pending:=GB j,fn,tmps:=a.tmps,params:=ps,assign,body,defers:=w.heap.size}:=⟨_,rfl⟩
 have hj:∀j:Option Ex,(GB j).isNone=j.isNone:=fun j=>by rcases j with _|⟨_|_⟩<;>rfl
 obtain⟨f,first,cap,rfl,he⟩:=hR.run lo (fun s j=>⟨_,by rw[p]⟩) (fun x h' K q z=>by
  refine⟨.inr ⟨_,rfl,⟨fun H V=>?_⟩⟩⟩
  subst V
  rw[p]at q
  have hy:=run_yield (P:=P) (args:=(me ks x).toArray) q (by simp only[cP,rq];rw[←M];rfl)
  refine⟨_,_,_,_,hy,fun c cs=>?_⟩
  have hA:Agree N (Qj ps.toList (me ks x) r) {tmps:=(ps.zip (me ks x).toArray).foldl (fun t (x:Nat×Value)=>t.setIfInBounds x.1 x.2) a.tmps,defers:= []}:=by
   rw[MA]
   exact Dw T ⟨Y.size,Y.look⟩
  have m:∀j:Option Ex,∀W:World,Tame H W→(W.heap[w.heap.size+1]? =some (lo .busy none)∧K j.isNone (W.heap.setIfInBounds (w.heap.size+1) (lo (if j.isNone then .ready else .done) j)))→
    ∃v w',(Instr.endRound (w.heap.size+1) (GB j)).run P W=.ok v w'∧∃b,Ending.returned v=.returned (.bool b)∧Tame H w'∧K b w'.heap:=by
   rintro j W O ⟨h1,S⟩
   rw[p]at h1
   have:=run_endRound (P:=P) (GB j) h1
   refine⟨_,_,this,_,rfl,O.trans (nn ..),?_⟩
   rw[p]at S
   rw[hj]
   exact S
  have:=roundIn_of_wpIn (F:=FW none) (n:=0) (P:=P) (l:=w.heap.size+1) (f:=fn) (assign:=assign) (body:=body) (w:=H)
   (tmps:=(ps.zip (me ks x).toArray).foldl (fun t (x:Nat×Value)=>t.setIfInBounds x.1 x.2) a.tmps)
   (R:=fun e w'=>∃b,e=.returned (.bool b)∧Tame H w'∧K b w'.heap) trivial (by
    refine qY (ro:=some (w.heap.size+1)) B assign aa _ _ _ _ H _ z hA (fun ch a w h=>h) ?_ (fun i r' a' w' _ _ h=>h.elim) (fun r' a' w' _ _ h=>h.elim)
    rintro r2 a2 w2 ha2 D ⟨y,C⟩
    rw[p]at y
    refine⟨_,run_beginRound y rfl,?_⟩
    have I:∀o,o=lo .busy none→w2.heap.setIfInBounds (w.heap.size+1) o=w2.heap.setIfInBounds (w.heap.size+1) (lo .busy none):=fun o Z=>by rw[Z]
    refine qY (ro:=some (w.heap.size+1)) B body ab (fun _ S=>_) (fun e _ S=>_) _ _ (w2.putObj (w.heap.size+1) _) _ (by
     rw[HN,I _ (by rw[p])];exact C) ha2 (fun ch a w h=>h) ?_ ?_ ?_
    ·rintro r3 a3 L J u G
     exact m none L ((D.tame.trans (nn ..)).trans u.tame) G
    ·rintro i r3 a3 L J u G
     exact m (some (.exit i)) L ((D.tame.trans (nn ..)).trans u.tame) G
    ·rintro r3 a3 L J u G
     exact m (some .ret) L ((D.tame.trans (nn ..)).trans u.tame) G)
  obtain⟨e,w',⟨b,rfl,O,hK⟩,hs⟩:=this.2 c cs (fun d h=>by simp[FW]at h)
  exact⟨b,w',O,hK,hs.steps⟩)
 have A:=he.run ((w.alloc (.deferred (some []))).alloc (lo .ready none)) rfl;refine⟨w.heap.size+1,[CU w.heap.size],(w.alloc (.deferred (some []))).alloc (lo .ready none),{target:=.fn (.func f) cap,args:=first++ #[.func (.yield (w.heap.size+1)) #[] #[]]},(w.alloc (.deferred (some []))).alloc (lo .ready none),f,
  first++ #[.func (.yield (w.heap.size+1)) #[] #[]]++cap,(w.alloc (.deferred (some []))).alloc (lo .ready none),?_,?_,fun _ _=>trivial,?_,fun h=>by simp[FW]at h,?_⟩
 ·rw[p];exact run_enterLoop_outer fn a.tmps ps assign body
 ·have hev:=jF Y hg
  simp[resolve,hev,Deferred.ofValue,Sem.run_pure];rfl
 ·simp[invoke,A.1]
 ·refine Dn ?_
  have e:(first.toList++ [Value.func (.yield (w.heap.size+1)) #[] #[]]++cap.toList).toArray=first++ #[.func (.yield (w.heap.size+1)) #[] #[]]++cap:=by apply cT;simp
  rw[←e];refine A.2.mono ?_;rintro e w' ⟨O,t,rfl,s,j,hs,q,m⟩;have X:Tame w w':=((Cq w _).trans (Cq _ _)).trans O;rw[p]at q;refine⟨_,_,run_endLoop q hs,?_⟩;have E:∀o,Tame w (w'.putObj (w.heap.size+1) o):=fun o=>X.trans (nn ..)
  have I:∀o,o=lo .exhausted j→(w'.putObj (w.heap.size+1) o).heap=w'.heap.setIfInBounds (w.heap.size+1) (lo .exhausted j):=fun o Z=>by rw[Z];rfl
  rcases j with _|⟨i|_⟩
  ·exact hn _ (E _) (by rw[I _ (by rw[p])];exact m)
  ·exact wpIn_exit (hx i _ (E _) (by rw[I _ (by rw[p])];exact m))
  ·exact wpIn_ret (hr _ (E _) (by rw[I _ (by rw[p])];exact m))
theorem Dg{n N id d:Nat}{ops:Array Oper}{m o:Oper}{x:Operand}{f:FuncId}{as:List Operand}{vs:List Value}{v:Value}{r:cA}{a:Act}{w:World}{Q:Exit→Act→World→Prop}(b:Dh ops.toList=some (m,o,x,d,f,as))(hv:dh r x=some v)(s:d<N)(g:mV ((d,v)::r) as=some vs)(i:Agree N r a)
  (j:∀a',Agree N ((d,v)::r) a'→a'.defers=oG (.call f vs)::a.defers→Q .normal a' w):(Code.region id ops false).wpIn (FW none) n P Q a w:=by
 unfold Dh at b;split at b
 ·rename_i m' o' hl
  split at b
  ·rename_i x' d' c h1 h2 h3 h4 h5 h6
   split at b
   ·rename_i f' hc
    cases b;have k:ops[0]? =some m:=by rw[←bp,hl];rfl
    have z:ops[1]? =some o:=by rw[←bp,hl];rfl
    have es:ops.size=2:=by rw[←Array.length_toList,hl];rfl
    have w0:∀y,Region.wanted m y=true:=fun y=>by simp[Region.wanted,h2]
    have q:∀y,Region.wanted o y=true:=fun y=>by simp[Region.wanted,h6]
    refine wpIn_region ?_;rw[es,show cK 2= [0,1]from rfl]
    simp only[wpOpsIn,k,z,w0,q,if_true];refine BigFrame.wpIn_move x h1 ?_;rw[jF i hv,h3];have e:=i.put d v s;refine⟨fun _ _=>trivial,?_⟩
    have t:((Oper.semAt (FW none).round (a.put (some d) v).eval o).run P w)=.ok (.defer (oG (.call f vs))) w:=by
     show((execOp (a.put (some d) v).eval o).run P w)=_
     have u:=lF e g;have p:c.args.map (a.put (some d) v).eval=vs.toArray:=by rw[←u];apply cT;simp
     simp only[execOp,h4,resolve,hc,p];simp[Act.eval,Deferred.ofValue,oG]
    rw[t,Oper.uponIn_defer,h5];exact j _ ⟨e.size,e.look⟩ rfl
   ·cases b
  ·cases b
 ·cases b
theorem F8(H:P.follows .mixedOrders=true){n N:Nat}(c:Code):∀(s:Ann) (Kn:List Mk→cA→ad→Prop) (Kx:Ex→List Mk→cA→ad→Prop) (ms:List Mk) (r:cA) (a:Act) (w:World) (Q:Exit→Act→World→Prop),
  xq P N c s Kn Kx ms r w.heap→Agree N r a→a.defers=ms.map oG→(∀I a w,¬Q (.panic I) a w)→
  (∀p q a' w',Agree N q a'→a'.defers=p.map oG→Tame w w'→Kn p q w'.heap→Q .normal a' w')→
  (∀i p q a' w',Agree N q a'→a'.defers=p.map oG→Tame w w'→Kx (.exit i) p q w'.heap→Q (.exit i) a' w')→
  (∀p q a' w',Agree N q a'→a'.defers=p.map oG→Tame w w'→Kx .ret p q w'.heap→Q .ret a' w')→
  c.wpIn (FW none) n P Q a w:=by
 have plain:∀(c:Code) (s:Ann) (Kn:List Mk→cA→ad→Prop) (Kx:Ex→List Mk→cA→ad→Prop) (ms:List Mk) (r:cA) (a:Act) (w:World) (Q:Exit→Act→World→Prop),
  j2 P N c s (Kn ms) (fun e=>Kx e ms) r w.heap→Agree N r a→a.defers=ms.map oG→(∀I a w,¬Q (.panic I) a w)→
  (∀p q a' w',Agree N q a'→a'.defers=p.map oG→Tame w w'→Kn p q w'.heap→Q .normal a' w')→
  (∀i p q a' w',Agree N q a'→a'.defers=p.map oG→Tame w w'→Kx (.exit i) p q w'.heap→Q (.exit i) a' w')→
  (∀p q a' w',Agree N q a'→a'.defers=p.map oG→Tame w w'→Kx .ret p q w'.heap→Q .ret a' w')→
  c.wpIn (FW none) n P Q a w:=by
  intro c s Kn Kx ms r a w Q j u hd C A hx B;exact qY H c s _ _ r a w Q j u C (fun q a' w' E z D=>A ms q a' w' E (z.defers.trans hd) z.tame D) (fun i q a' w' E z D=>hx i ms q a' w' E (z.defers.trans hd) z.tame D)
   (fun q a' w' E z D=>B ms q a' w' E (z.defers.trans hd) z.tame D)
 induction c with
 |skip=>intro s Kn Kx ms r a w Q j;exact plain _ s Kn Kx ms r a w Q j
 |region id ops dr=>
  intro s Kn Kx ms r a w Q j u hd C A hx B;have j:(match Dh ops.toList with
   |none=>j2 P N (.region id ops dr) s (Kn ms) (fun e=>Kx e ms) r w.heap
   |some (_,_,x,d,f,as)=>bif dr then False else match dh r x with
    |some v=>bif wm d N then(match mV ((d,v)::r) as with|some vs=>Kn (.call f vs::ms) ((d,v)::r) w.heap|none=>False)else False
    |none=>False):=j
  split at j
  ·exact plain _ s Kn Kx ms r a w Q j u hd C A hx B
  ·rename_i m o x d f as he
   cases dr with
   |true=>exact j.elim
   |false=>
    rw[cond_false]at j;split at j
    · rename_i v hv
      cases hb:wm d N with
      |false=>rw[hb]at j;exact j.elim
      |true=>
       rw[hb,cond_true]at j;split at j
       ·rename_i vs hvs
        refine Dg he hv (by simpa using hb) hvs u fun a' S T=>A (.call f vs::ms) _ a' w S ?_ ⟨rfl,rfl,rfl⟩ j
        rw[T,hd];rfl
       ·exact j.elim
    · exact j.elim
 |seq x y ihx ihy=>
  intro s Kn Kx ms r a w Q j u hd C A hx B;have j:(bif (bif qv x then true else qv y)then xq P N x s.l (fun ms q F=>xq P N y s.r Kn Kx ms q F) Kx ms r w.heap
   else j2 P N (.seq x y) s (Kn ms) (fun e=>Kx e ms) r w.heap):=j
  cases hb:(bif qv x then true else qv y)with
  |false=>rw[hb]at j;exact plain _ _ _ _ _ _ _ _ _ j u hd C A hx B
  |true=>
   rw[hb,cond_true]at j;refine wpIn_seq (ihx s.l _ Kx ms r a w _ j u hd (fun I a w=>C I a w) ?_ hx B)
   intro M Y Z w1 V X J O;exact ihy s.r Kn Kx M Y Z w1 Q O V X C (fun p q a' w' E z D G=>A p q a' w' E z (J.trans D) G) (fun i p q a' w' E z D G=>hx i p q a' w' E z (J.trans D) G)
    (fun p q a' w' E z D G=>B p q a' w' E z (J.trans D) G)
 |cond c x y ihx ihy=>
  intro s Kn Kx ms r a w Q j u hd C A hx B;have j:(bif (bif qv x then true else qv y)then
    (match dh r c with
     |some (.bool t)=>CondP t (xq P N x s.l Kn Kx ms r w.heap) (xq P N y s.r Kn Kx ms r w.heap)
     |_=>False)
   else j2 P N (.cond c x y) s (Kn ms) (fun e=>Kx e ms) r w.heap):=j
  cases hb:(bif qv x then true else qv y)with
  |false=>rw[hb]at j;exact plain _ _ _ _ _ _ _ _ _ j u hd C A hx B
  |true=>
   rw[hb,cond_true]at j;split at j
   ·rename_i t K
    exact wpIn_cond_split (jF u K) (fun e=>ihx _ Kn Kx ms r a w Q (j.yes e) u hd C A hx B) (fun e=>ihy _ Kn Kx ms r a w Q (j.no e) u hd C A hx B)
   ·exact j.elim
 |block id b ih=>
  intro s Kn Kx ms r a w Q j u hd C A hx B;have j:(bif qv b then xq P N b s Kn (fun e ms q F=>match e with
    | .exit i=>bif bF i id then Kn ms q F else Kx (.exit i) ms q F
    | .ret=>Kx .ret ms q F) ms r w.heap
   else j2 P N (.block id b) s (Kn ms) (fun e=>Kx e ms) r w.heap):=j
  cases hb:qv b with
  |false=>rw[hb]at j;exact plain _ _ _ _ _ _ _ _ _ j u hd C A hx B
  |true=>
   rw[hb,cond_true]at j;refine wpIn_block (ih s Kn _ ms r a w _ j u hd (fun I a w=>C I a w) A (fun i p q a' w' E z D G=>?_) B)
   simp only[Exit.inBlock]at G⊢;cases hi:bF i id with
   |true=>
    rw[hi,cond_true]at G;rw[if_pos (aZ hi)];exact A p q a' w' E z D G
   |false=>
    rw[hi,cond_false]at G;rw[if_neg (fun e=>by rw[e,qg]at hi;cases hi)]
    exact hx i p q a' w' E z D G
 |loop b ih=>intro s Kn Kx ms r a w Q j;exact plain _ s Kn Kx ms r a w Q j
 |rangeFunc g ps assign body _ _=>
  intro s Kn Kx ms r a w Q j u hd C A hx B;cases s with
  |rf ks aa ab=>
   have j:(bif xx N ps.toList&&bF ps.toList.length ks.length then
    (match dh r g with
     |some fv=>RangeP P fv ks w.heap (fun EX bz x k F=>Jv P N ps.toList ks assign body (.node aa ab) r (w.heap.size+1) EX bz x k F)
       (fun F=>Kn (.it w.heap.size::ms) r F) (fun i F=>Kx (.exit i) (.it w.heap.size::ms) r F) (fun F=>Kx .ret (.it w.heap.size::ms) r F)
     |none=>False)else False):=j
   cases hb:(xx N ps.toList&&bF ps.toList.length ks.length)with
   |false=>rw[hb]at j;exact j.elim
   |true=>
    rw[hb,cond_true]at j;rw[bC]at hb;split at j
    · rename_i fv hfv
      have W:Agree N r {a with defers:=CU w.heap.size::a.defers}:=⟨u.size,u.look⟩;have R:({a with defers:=CU w.heap.size::a.defers}:Act).defers=(.it w.heap.size::ms).map oG:=by rw[List.map_cons,←hd]
      exact BG H hb.1 (aZ hb.2) hfv u j (fun w' K L=>A _ r _ w' W R K L) (fun i w' K L=>hx i _ r _ w' W R K L) (fun w' K L=>B _ r _ w' W R K L)
    · exact j.elim
  |_=>exact j.elim
 |exit id=>intro s Kn Kx ms r a w Q j;exact plain _ s Kn Kx ms r a w Q j
 |scope b _=>intro s Kn Kx ms r a w Q j;exact j.elim
 |label l=>intro s Kn Kx ms r a w Q j;exact plain _ s Kn Kx ms r a w Q j
 |goto l=>intro s Kn Kx ms r a w Q j;exact j.elim
 |ret=>intro s Kn Kx ms r a w Q j;exact plain _ s Kn Kx ms r a w Q j
 |refuse why=>intro s Kn Kx ms r a w Q j;exact j.elim
theorem tI{fn:Func}{ks:List Kind}{K:sU ks→ad→Prop}{N:Nat}{n:Nat}{r:cA}{a:Act}{w0:World}(d:Agree N r a):∀(ms:List Mk) (w:World),Tame w0 w→
  Hv P ms (fun g=>mK P r g fn.results.toList fun vs=>BL ks vs fun t=>K t g) w.heap→
  LeavesInM (FW none) n P fn a.tmps (fun e w'=>Tame w0 w'∧∃t:sU ks,e=.returned (BF ks (me ks t))∧K t w'.heap) (ms.map oG) .returning w
 | [],w,ht,h=>by
  obtain⟨t,b,i⟩:=HB d h;exact⟨_,b,ht,t,rfl,i⟩
 | .it D::ms,w,ht,h=>by
  refine⟨by simp,.inl ⟨D,_,rfl,run_takeDeferred h.1,?_⟩⟩;exact tI d ms (w.putObj D (.deferred none)) (ht.trans (nn ..)) h.2
 | .call f vs::ms,w,ht,h=>by
  obtain⟨hc,hd⟩:=h w rfl;refine⟨by simp,.inr ⟨(fun e=>by cases e),.func f,#[],f,vs.toArray,rfl,?_,fun _ _=>trivial,CallsDIn.mono (hd (n-1)) fun e u w' ⟨j,c,⟨v,m⟩,k⟩=>?_⟩⟩
  ·have:=hc vs.toArray w
   simpa[invoke]using this
  ·subst j m
   exact tI d ms w' (ht.trans c) k
theorem HE.introM(m:P.follows .mixedOrders=true){f:FuncId}{fn:Func}{c:Code}{q:Ann}{args:List Value}{ks:List Kind}{K:sU ks→ad→Prop}{h:ad}
  (s:P.funcs[f]? =some fn) (u:fn.body=some c) (g:∀(args:Array Value) (w:World),(callFunc f args).run P w=.ok (.enter f args) w) (k:args.length≤fn.ntmps)
  (y:Jw P fn c q args ks K h):HE P f args ks K h:=by
 refine⟨fun w x=>⟨g,?_⟩⟩
 subst x;refine(callsIn_wide (n:=0)).1 (callsIn_of_wp_marks (F:=FW none) s u trivial ?_ rfl);refine wpIn_mono (Q:=fun e a w'=>(∀o,e≠ .panic o)∧bodyPostM (FW none) 0 P fn (fun e w'=>Tame w w'∧∃t:sU ks,e=.returned (BF ks (me ks t))∧K t w'.heap) e a w') ?_ fun e a w h=>h.2
 refine F8 m c q _ _ [] _ _ w _ y (KV k) rfl (fun o a w h=>h.1 o rfl) ?_ (fun _ _ _ _ _ _ _ _ h=>h.elim) ?_
 ·intro i v a' w' j d b p
  refine⟨(fun _ e=>by cases e),?_⟩
  show LeavesInM _ _ _ _ _ _ a'.defers _ _
  rw[d];exact tI j i w' b p
 ·intro i v a' w' j d b p
  refine⟨(fun _ e=>by cases e),?_⟩
  show LeavesInM _ _ _ _ _ _ a'.defers _ _
  rw[d];exact tI j i w' b p
theorem HC.introM(d:P.follows .mixedOrders=true){f:FuncId}{fn:Func}{c:Code}{i:Ann}{args:List Value}{ks:List Kind}{K:sU ks→ad→Prop}{h:ad}
 (e:P.funcs[f]? =some fn) (g:fn.body=some c) (a:∀(args:Array Value) (w:World),(callFunc f args).run P w=.ok (.enter f args) w) (b:args.length≤fn.ntmps)
 (j:Jw P fn c i args ks K h):HC P f args ks K h:=(HE.introM d e g a b j).hc
end Go.Lift
namespace Go.Lift
open Go
def AppP(z:Option (List Value))(e b:Nat)(t:TypeId)(a:Option Addr)(sl d c:Nat)(xs:List Value)(h:ad)(K:SliceV→ad→Prop):Prop:=
 (sl+c≤d→sS h a (sl*e) xs∧ce xs=true∧K ⟨a,sl+c,d⟩ (fF h a (sl*e) xs))∧
 (d<sl+c→∃old z',SRow h a (sl*e) old∧z=some z'∧0<b∧Builtin.nextslicecap (sl+c) d*b≤2^48∧
  ∀nc,sl+c≤nc→K ⟨some (aC h),sl+c,nc⟩ (hnew h (old++xs++dy (nc-(sl+c)) z') t))
end Go.Lift
