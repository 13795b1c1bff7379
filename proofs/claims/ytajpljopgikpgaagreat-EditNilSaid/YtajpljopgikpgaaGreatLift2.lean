/- A part of the proof that the named laws of this program answer true, whatever the input. -/
import Derived.Test.YtajpljopgikpgaaGreatLift1
import Derived.BigFrameIn
open Array renaming getD_eq_getD_getElem?→bB,getElem?_toList→aA,getElem?_setIfInBounds_ne→cy,replicate→g9,getElem?_eq_some_iff→aU,getElem?_eq_getElem→eE,getElem?_eq_none→fC,mapM_eq_mapM_toList→gI,ext'→bv
open Bool renaming or_eq_true→eI,and_eq_true→aG,or_eq_false_iff→gk
open List renaming mem_of_getElem?→aR,length_cons→aQ,mem_cons→ai,getElem?_cons_zero→bM,getElem?_eq_getElem→aq,any_eq_true→bE,getElem?_eq_some_iff→bw,mem_cons_of_mem→aS,mem_cons_self→aC,range→cp,filter_cons→co,mem_singleton→ag,size_toArray→bG
open Nat renaming blt→nQ,beq→aI,eq_of_beq_eq_true→au,land→eR,lor→bo,testBit_and→fO,succ→cV,zero_add→ar,beq_refl→kd,lt_or_ge→bV,pred→nH,sub_zero→c7
open Option renaming some→aN
namespace Go.Lift
open Go
variable {P:Program} {ro:Option Nat} {n:Nat}
def FW(ro:Option Nat):Fence:={fn:=fun _=>True,depth:=none,alive:=false,round:=ro}
theorem Ad(m:Machine):m.fenced P (FW ro):=by
 intro g _;exact⟨fun h=>by simp[FW]at h,.inl trivial,fun _ _=>trivial,fun d h=>by simp[FW]at h⟩
theorem oD{m a:Machine}(h:Steps P m a):StepsIn (Machine.fenced P (FW ro)) P m a:=(StepsIn.of_steps h).mono fun m _=>Ad m
theorem tC{k:Nat}{f:FuncId}{args:Array Value}{w:World}{R:Ending→World→Prop}(h:Calls P f args w R):CallsIn (FW ro) k P f args w R:=by
 refine⟨trivial,fun cs _=>?_⟩
 obtain⟨e,w',fr,d,hc,a,b⟩:=h cs;refine⟨e,w',fr,d,?_,a,b⟩;cases e with
 |returned v=>exact oD hc
 |panicked c=>exact oD hc
 |outgrown=>exact hc
theorem jz{o:Oper}{a:Act}{w:World}{K:WK}{next:Act→World→Prop}{Q:Exit→Act→World→Prop}(hd:∀c,o.op≠ .defer c)(h:w9 P (execOp a.eval o) K w)
  (j:∀v w',Tame w w'→K v w'.heap→next (a.put o.dst v) w'):o.wpIn (FW ro) n P a w next Q:=by
 refine⟨fun _ _=>trivial,?_⟩
 rw[Oper.semAt_eq _ _ _ hd];rcases h with⟨v,w',d,i,g⟩|⟨w',d,i,g⟩|⟨f,args,d,hc⟩|⟨l,fn,tmps,assign,body,d,hc⟩
 ·rw[d];exact j v w' i g
 ·rw[d];exact j undef w' i g
 ·rw[d]
  refine⟨fun h=>by simp[FW]at h,tC (hc.mono ?_)⟩
  rintro e w' ⟨i,v,rfl,g⟩;exact j v w' i g
 ·rw[d]
  refine⟨fun h=>by simp[FW]at h,trivial,fun c cs _=>?_⟩
  obtain⟨b,w',i,g,k⟩:=hc c cs;exact⟨.returned (.bool b),w',j _ w' i g,oD k⟩
theorem lj{N:Nat}{o:Oper}{v:Value}{r:be}{K:be→Prop}{a:Act}{d:mh}{dv:DV}(h:oX N o v r K)(c:Agree N r a)(hd:DecOk d r)(hv:uq dv v):
  ∃r',K r'∧Agree N r' (a.put o.dst v)∧DecOk (j8 d o dv) r':=by
 unfold oX at h;unfold j8;cases ho:o.dst with
 |none=>rw[ho]at h;exact⟨r,h,c,hd⟩
 |some t=>
  rw[ho]at h;simp only at h;cases hb:nQ t N with
  |false=>rw[hb]at h;exact h.elim
  |true=>
   rw[hb]at h;have b:t<N:=by simpa using hb
   refine⟨_,h,c.put t v b,fun s=>?_⟩
   by_cases e:t=s
   ·subst e
    have:jZ ((t,dv)::d) t=dv:=by simp[jZ]
    rw[this];exact .inr ⟨v,dY t v r,hv⟩
   ·have f:jZ ((t,dv)::d) s=jZ d s:=by
     have:aI t s=false:=Bool.eq_false_iff.2 fun g=>e (au g)
     show(bif aI t s then dv else jZ d s)=_
     rw[this];rfl
    rw[f,dD v r e];exact hd s
theorem ri{ek:Option (Kind×Kind)}{o:Op}{r:be}{K:RK}{h:ac}(a:qi P ek o r K h):∀c,o≠ .defer c:=by
 intro c e;subst e;exact a
theorem m5{o:Oper}{r:be}{K:WK}{h:ac}(a:tX P o r K h):∀c,o.op≠ .defer c:=by
 intro c e;unfold tX at a;rw[e]at a;exact a
theorem Er{d:mh}{o:Op}(h:mO P o=false):vS d o=.x:=by
 cases o<;>first|rfl|(simp[mO]at h)
theorem zI{N:Nat}{ek:Option (Kind×Kind)}{o:Oper}{r:be}{K:be→ac→Prop}{a:Act}{w:World}{d:mh}{next:Act→World→Prop}{Q:Exit→Act→World→Prop}
  (e:DW P N ek o r K w.heap)(i:Agree N r a)(hd:DecOk d r)
  (p:∀v w' g,Tame w w'→K g w'.heap→Agree N g (a.put o.dst v)→DecOk (j8 d o (vS d o.op)) g→next (a.put o.dst v) w'):o.wpIn (FW ro) n P a w next Q:=by
 unfold DW at e;cases hq:mO P o.op with
 |true=>
  rw[hq,cond_true]at e;obtain⟨v,S,k,s,j,q⟩:=qs i e d hd;refine jz (K:=fun u t=>u=v∧t=w.heap) (ri e) (.inl ⟨v,w,q w s,Tame.refl w,rfl,rfl⟩) ?_
  rintro u w' m ⟨rfl,x⟩;obtain⟨g,c,f,b⟩:=lj k i hd j;exact p u w' g m (by rw[x];exact c) f b
 |false=>
  rw[hq,cond_false]at e;refine jz (m5 e) (qn i e) ?_;intro v w' m k;obtain⟨g,c,f,b⟩:=lj k i hd (dv:=vS d o.op) (by rw[Er hq];trivial);exact p v w' g m c f b
theorem uJ{t:Array Value}{i:Nat}{b:Bool}(h:t.getD i undef=.bool b):t[i]? =some (.bool b):=by
 rw[bB]at h;cases hc:t[i]? with
 |none=>rw[hc]at h;simp[undef]at h
 |some v=>rw[hc]at h;simp at h;rw[h]
theorem yn{t:Array Value}{i:Nat}(h:t.getD i undef=undef):t[i]? =none∨t[i]? =some undef:=by
 rw[bB]at h;cases hc:t[i]? with
 |none=>exact .inl rfl
 |some v=>rw[hc]at h;simp at h;rw[h];exact .inr rfl
theorem gQ{N:Nat}{ops:Array Oper}{d:mh}{o:Oper}{b:Bool}{r:be}{a:Act}(h:ez ops.toList d o=some b)(n:Agree N r a)(hd:DecOk d r):
  Region.wanted o (yielded ops a.tmps)=b:=by
 unfold ez at h;unfold Region.wanted;cases hg:o.guard with
 |none=>rw[hg]at h;simp only[aN.injEq]at h;exact h
 |some g=>
  obtain⟨j,c⟩:=g;rw[hg]at h;simp only[aA]at h;simp only;cases hj:ops[j]? with
  |none=>rw[hj]at h;cases h
  |some oj=>
   rw[hj]at h;simp only at h;cases ht:oj.dst with
   |none=>rw[ht]at h;cases h
   |some t=>
    rw[ht]at h;simp only at h;have m:yielded ops a.tmps j=(match a.tmps[t]? with|some (.bool b)=>some b|_=>none):=by
     unfold yielded;simp[hj,ht];rfl
    rw[m];rcases hd t with hx|⟨v,hv,k⟩
    ·rw[hx]at h;cases h
    ·have i:=n.look t v hv
     cases hdl:jZ d t with
     |x=>rw[hdl]at h;cases h
     |t=>
      rw[hdl]at h k;simp only[aN.injEq]at h;subst h;have:v=.bool true:=k;subst this;rw[uJ i];cases c<;>rfl
     |f=>
      rw[hdl]at h k;simp only[aN.injEq]at h;subst h;have:v=.bool false:=k;subst this;rw[uJ i];cases c<;>rfl
     |u=>
      rw[hdl]at h k;simp only[aN.injEq]at h;subst h;have:v=undef:=k;subst this;rcases yn i with e|e<;>rw[e]<;>cases c<;>rfl
structure Fr(W:Nat→Prop)(a0:Act)(w0:World)(a:Act)(w:World):Prop where
 tame:Tame w0 w
 defers:a.defers=a0.defers
 same:∀t,¬W t→a.tmps.getD t undef=a0.tmps.getD t undef
theorem Fr.refl(W:Nat→Prop)(a:Act)(w:World):Fr W a w a w:=⟨Tame.refl w,rfl,fun _ _=>rfl⟩
theorem Fr.put{W:Nat→Prop}{f a:Act}{g w w':World}(h:Fr W f g a w){o:Oper}(i:∀d,o.dst=some d→W d)(v:Value)(j:Tame w w'):Fr W f g (a.put o.dst v) w':=by
 refine⟨h.tame.trans j,?_,fun t c=>?_⟩
 ·cases ho:o.dst<;>simp[Act.put,h.defers]
 ·cases ho:o.dst with
  |none=>exact h.same t c
  |some d=>
   have b:d≠t:=fun e=>c (e▸i d ho)
   rw[←h.same t c];simp[Act.put,cy b]
theorem Fr.trans{W:Nat→Prop}{a g b:Act}{e c f:World}(h:Fr W a e g c)(k:Fr W g c b f):Fr W a e b f:=
 ⟨h.tame.trans k.tame,k.defers.trans h.defers,fun t d=>(k.same t d).trans (h.same t d)⟩
theorem Fr.mono{W W':Nat→Prop}{b a:Act}{c w:World}(h:Fr W b c a w)(d:∀t,W t→W' t):Fr W' b c a w:=
 ⟨h.tame,h.defers,fun t f=>h.same t fun e=>f (d t e)⟩
theorem DecOk.known{d:mh}{r:be}(h:DecOk d r){t:Nat}{dv:DV}{v:Value}(hv:uq dv v):DecOk ((t,dv)::d) ((t,v)::r):=fun s=>by
 by_cases e:t=s
 ·subst e
  have:jZ ((t,dv)::d) t=dv:=by simp[jZ]
  rw[this];exact .inr ⟨v,dY t v r,hv⟩
 ·have a:jZ ((t,dv)::d) s=jZ d s:=by
   have:aI t s=false:=Bool.eq_false_iff.2 fun b=>e (au b)
   show(bif aI t s then dv else jZ d s)=_
   rw[this];rfl
  rw[a,dD v r e];exact h s
theorem sg{N:Nat}{ek:Option (Kind×Kind)}{ops:Array Oper}{o:Oper}{i:Nat}{d:mh}{r:be}{a:Act}{w:World}{b:Bool}{K:mh→be→ac→Prop}{next:Act→World→Prop}{Q:Exit→Act→World→Prop}
  (p:ops[i]? =some o) (s:ez ops.toList d o=some b) (j:Agree N r a) (hd:DecOk d r)
  (k:match b with
   |true=>DW P N ek o r (K (j8 d o (vS d o.op))) w.heap
   |false=>oX N o undef r fun c=>K (j8 d o .u) c w.heap)
  (m:∀v w' d' c,Tame w w'→K d' c w'.heap→Agree N c (a.put o.dst v)→DecOk d' c→next (a.put o.dst v) w'):
  wpOpIn (FW ro) n P ops Q i next a w:=by
 unfold wpOpIn;rw[p];simp only[gQ s j hd];cases b with
 |true=>exact zI k j hd fun v w' c t q f e=>m v w' _ c t q f e
 |false=>
  obtain⟨c,g,f,e⟩:=lj (dv:=.u) k j hd rfl;exact⟨fun _ _=>trivial,m undef w _ c (Tame.refl w) g f e⟩
theorem zH{N:Nat}{ek:Option (Kind×Kind)}{ops:List Oper}{o:Oper}{os:List Oper}{d:mh}{K:be→ac→Prop}{r:be}{h:ac}:sK P N ek ops (o::os) d K r h=
 (match ez ops d o with
 |some true=>DW P N ek o r (fun a c=>sK P N ek ops os (j8 d o (vS d o.op)) K a c) h
 |some false=>oX N o undef r fun a=>sK P N ek ops os (j8 d o .u) K a h
 |none=>match te ops o with
  |none=>False
  |some t=>match fo r t with
   |some (.bool b)=>CondP b
    (uw P N ek ops o ((t,.t)::d) ((t,.bool true)::r) h fun e a c=>sK P N ek ops os e K a c)
    (uw P N ek ops o ((t,.f)::d) ((t,.bool false)::r) h fun e a c=>sK P N ek ops os e K a c)
   |_=>False):=rfl
theorem ut{N:Nat}{ek:Option (Kind×Kind)}{ops:Array Oper}{o:Oper}{i:Nat}{d:mh}{r:be}{a:Act}{w:World}{K:mh→be→ac→Prop}{next:Act→World→Prop}{Q:Exit→Act→World→Prop}
  (g:ops[i]? =some o) (e:Agree N r a) (hd:DecOk d r) (c:uw P N ek ops.toList o d r w.heap K)
  (f:∀v w' d' r',Tame w w'→K d' r' w'.heap→Agree N r' (a.put o.dst v)→DecOk d' r'→next (a.put o.dst v) w'):
  wpOpIn (FW ro) n P ops Q i next a w:=by
 unfold uw at c;cases hw:ez ops.toList d o with
 |none=>rw[hw]at c;exact c.elim
 |some b=>rw[hw]at c;exact sg (ek:=ek) g hw e hd (by cases b<;>exact c) f
theorem sJ{N:Nat}{ek:Option (Kind×Kind)}{ops:Array Oper}{W:Nat→Prop}(s:∀o∈ops.toList,∀d,o.dst=some d→W d){q:Act}{x:World}{K:be→ac→Prop}{Q:Exit→Act→World→Prop}
  (y:∀r a w,Agree N r a→Fr W q x a w→K r w.heap→Q .normal a w):
  ∀(l:List Oper) (i:Nat),ops.toList.drop i=l→∀(d:mh) (r:be) (a:Act) (w:World),sK P N ek ops.toList l d K r w.heap→Agree N r a→DecOk d r→Fr W q x a w→
   wpOpsIn (FW ro) n P ops Q (List.range' i l.length) a w
 | [],i,_,d,r,a,w,hs,ha,hd,hf=>y r a w ha hf hs
 |o::os,i,hdr,d,r,a,w,hs,ha,hd,hf=>by
  have j:ops[i]? =some o:=by
   rw[←aA];have:(ops.toList.drop i)[0]? =some o:=by rw[hdr];rfl
   simpa using this
  have f:o∈ops.toList:=aR (by rw[aA];exact j);have g:ops.toList.drop (i+1)=os:=by rw[←List.tail_drop,hdr];rfl
  rw[aQ,List.range'_succ,wpOpsIn_cons];rw[zH]at hs;have p:∀v w' e c,Tame w w'→sK P N ek ops.toList os e K c w'.heap→Agree N c (a.put o.dst v)→DecOk e c→wpOpsIn (FW ro) n P ops Q (List.range' (i+1) os.length) (a.put o.dst v) w':=
   fun v w' e c u z m k=>sJ s y os (i+1) g e c _ w' z m k (hf.put (s o f) v u)
  cases hw:ez ops.toList d o with
  |some b=>
   rw[hw]at hs;exact sg (ek:=ek) (K:=fun e c A=>sK P N ek ops.toList os e K c A) j hw ha hd (by cases b<;>exact hs) p
  |none=>
   rw[hw]at hs;simp only at hs;split at hs
   ·exact hs.elim
   ·rename_i t u
    split at hs
    ·rename_i b hb
     cases b with
     |true=>exact ut j (ha.known hb) (hd.known (dv:=.t) rfl) (hs.yes rfl) p
     |false=>exact ut j (ha.known hb) (hd.known (dv:=.f) rfl) (hs.no rfl) p
    ·exact hs.elim
end Go.Lift
namespace Go.Lift
open Go
theorem pp(m i:Nat):tb m i=m.testBit i:=by
 have h:eR (Nat.shiftRight m i) 1=(m>>>i)&&&1:=rfl;unfold tb;rw[h,Nat.testBit_eq_decide_div_mod_eq,Nat.and_one_is_mod,Nat.shiftRight_eq_div_pow];cases hm:decide (m/2^i%2=1)with
 |true=>rw[of_decide_eq_true hm];rfl
 |false=>
  have a:=of_decide_eq_false hm;have:m/2^i%2=0:=by omega
  rw[this];rfl
theorem ic(a b i:Nat):(bo a b).testBit i=(a.testBit i||b.testBit i):=Nat.testBit_or a b i
theorem oZ(i j:Nat):(dC i).testBit j=decide (i=j):=Nat.testBit_two_pow
theorem qJ{a b:Nat}(h:aI (eR a b) 0=true)(t:Nat)(d:a.testBit t=true)(c:b.testBit t=true):False:=by
 have e:=au h;have:(eR a b).testBit t=(a.testBit t&&b.testBit t):=fO a b t;rw[e,d,c]at this;simp at this
theorem CM{a b:Nat}(h:aI (eR a b) a=true)(t:Nat)(c:a.testBit t=true):b.testBit t=true:=by
 have d:=au h;have:(eR a b).testBit t=(a.testBit t&&b.testBit t):=fO a b t;rw[d,c]at this;simpa using this.symm
theorem oq(i:Nat):∀l:List Edge,(gy l).testBit i=l.any fun e=>aI e.on i&&Region.binds .any e
 | []=>Nat.zero_testBit i
 |e::l=>by
  have a:=oq i l;have hc:gy (e::l)=bif Region.binds .any e then bo (dC e.on) (gy l)else gy l:=rfl;rw[hc,List.any_cons,←a];cases hb:Region.binds .any e with
  |true=>
   rw[cond_true,ic,oZ,Bool.and_true];congr 1
   cases hd:aI e.on i with
   |true=>simpa using au hd
   |false=>rw[decide_eq_false_iff_not];intro b;rw[b]at hd;simp at hd
  |false=>simp
theorem pS(o:Oper)(i:Nat):(gy o.after.toList).testBit i=eA o i:=oq i o.after.toList
theorem po(t:Nat):∀l:List Operand,(gb l).testBit t=true↔Operand.tmp t∈l
 | []=>by simp[show gb []=0 from rfl]
 |o::l=>by
  have a:=po t l;cases o with
  |tmp u=>
   have hc:gb (.tmp u::l)=bo (dC u) (gb l):=rfl;rw[hc,ic,oZ,eI,a,ai];simp[eq_comm]
  |const v=>
   have hc:gb (.const v::l)=gb l:=rfl;rw[hc,a,ai];simp
  |global v=>
   have hc:gb (.global v::l)=gb l:=rfl;rw[hc,a,ai];simp
  |func v=>
   have hc:gb (.func v::l)=gb l:=rfl;rw[hc,a,ai];simp
theorem nz(o:Oper)(t:Nat):(g6 o).testBit t=true↔o.dst=some t:=by
 unfold g6;cases o.dst with
 |none=>simp
 |some d=>simp[oZ]
theorem uf(ops:Array Oper)(o:Oper)(t:Nat):(ik ops.toList o).testBit t=true↔t∈o.looksAt ops:=by
 unfold ik Oper.looksAt;rw[ic,eI,po,List.mem_append,List.mem_filterMap];refine or_congr ⟨fun h=>⟨_,h,rfl⟩,?_⟩ ?_
 ·rintro⟨x,hx,a⟩
  cases x<;>simp at a
  subst a;exact hx
 ·cases hg:o.guard with
  |none=>simp
  |some g=>
   obtain⟨j,b⟩:=g;simp only[aA];cases hj:ops[j]? with
   |none=>simp
   |some oj=>simp[nz]
variable {P:Program} {ro:Option Nat} {n:Nat} {ops:Array Oper} {Q:Exit→Act→World→Prop}
structure MsOk(ops:Array Oper)(ms:List DM):Prop where
 am:∀(i:Nat) (o:Oper) (m:DM),ops[i]? =some o→ms[i]? =some m→∀j,m.am.testBit j=eA o j
 lk:∀(i:Nat) (o:Oper) (m:DM),ops[i]? =some o→ms[i]? =some m→∀t,m.lk.testBit t=true↔t∈o.looksAt ops
 ds:∀(i:Nat) (o:Oper) (m:DM),ops[i]? =some o→ms[i]? =some m→∀t,m.ds.testBit t=true↔o.dst=some t
 len:ms.length=ops.size
 free:∀(i j:Nat) (m k:DM),ms[i]? =some m→ms[j]? =some k→m.fr.testBit j=true→j=i∨k.am.testBit i=true∨qL m k=true
 nosel:∀(i:Nat) (o:Oper),ops[i]? =some o→(∀cs b,o.op≠ .select cs b)∧(∀c,o.op≠ .defer c)
theorem py(ops:List Oper):∀(l:List Oper) (ms:List DM),nf ops l ms=true→ms.length=l.length∧∀(i:Nat) (o:Oper) (m:DM),l[i]? =some o→ms[i]? =some m→
  m.am=gy o.after.toList∧m.lk=ik ops o∧m.ds=g6 o
 | [],[],_=>⟨rfl,fun i o m h=>by simp at h⟩
 | [],_::_,h=>by cases h
 |o::l,[],h=>by cases h
 |o::l,m::ms,h=>by
  have hc:nf ops (o::l) (m::ms)=(aI (gy o.after.toList) m.am&&aI (ik ops o) m.lk&&aI (g6 o) m.ds&&nf ops l ms):=rfl;rw[hc]at h;simp only[aG]at h;obtain⟨⟨⟨k,d⟩,g⟩,b⟩:=h;obtain⟨e,j⟩:=py ops l ms b;refine⟨by simp[e],fun i c f a hm=>?_⟩
  cases i with
  |zero=>
   simp only[bM,aN.injEq]at a hm;subst a;subst hm;exact⟨(au k).symm,(au d).symm,(au g).symm⟩
  |succ i=>exact j i c f (by simpa using a) (by simpa using hm)
theorem uK(i:Nat)(m:DM):∀(l:List DM) (j0:Nat),uL i m l j0=true→∀(j:Nat) (k:DM),l[j]? =some k→m.fr.testBit (j0+j)=true→j0+j=i∨k.am.testBit i=true∨qL m k=true
 | [],j0,_,j,k,hk,_=>by simp at hk
 |x::l,j0,h,j,k,hk,hb=>by
  have hc:uL i m (x::l) j0=((!(tb m.fr j0)||aI j0 i||tb x.am i||qL m x)&&uL i m l (cV j0)):=rfl
  rw[hc]at h;simp only[aG,eI,Bool.not_eq_true',pp]at h;cases j with
  |zero=>
   simp only[bM,aN.injEq]at hk;subst hk;simp only[Nat.add_zero]at hb⊢;rcases h.1 with((a|a)|a)|a
   ·rw[a]at hb;cases hb
   ·exact .inl (au a)
   ·exact .inr (.inl a)
   ·exact .inr (.inr a)
  |succ j=>
   have:=uK i m l (j0+1) h.2 j k (by simpa using hk) (by rw[show j0+1+j=j0+(j+1) by omega];exact hb)
   rw[show j0+1+j=j0+(j+1) by omega]at this
   exact this
theorem rl(a:List DM):∀(l:List DM) (i0:Nat),pF a l i0=true→∀(i:Nat) (m:DM),l[i]? =some m→uL (i0+i) m a 0=true
 | [],i0,_,i,m,hm=>by simp at hm
 |x::l,i0,h,i,m,hm=>by
  have hc:pF a (x::l) i0=(uL i0 x a 0&&pF a l (cV i0)):=rfl;rw[hc,aG]at h;cases i with
  |zero=>simp only[bM,aN.injEq]at hm;subst hm;exact h.1
  |succ i=>
   have:=rl a l (i0+1) h.2 i m (by simpa using hm);rw[show i0+1+i=i0+(i+1) by omega]at this
   exact this
theorem uG:∀(l:List Oper),wE l=true→∀o∈l,(∀cs b,o.op≠ .select cs b)∧(∀c,o.op≠ .defer c)
 | [],_,o,a=>by cases a
 |x::l,h,o,a=>by
  simp only[wE,aG]at h;rcases ai.1 a with rfl|a
  ·refine⟨fun cs b e=>?_,fun c e=>?_⟩
   ·rw[e]at h;cases h.1
   ·rw[e]at h;cases h.1
  ·exact uG l h.2 o a
theorem xY{ms:List DM}(h:rY ops.toList ms=true):MsOk ops ms:=by
 have hc:rY ops.toList ms=(nf ops.toList ops.toList ms&&pF ms ms 0&&wE ops.toList):=rfl;rw[hc]at h;simp only[aG]at h;obtain⟨⟨g,c⟩,d⟩:=h;obtain⟨e,b⟩:=py ops.toList ops.toList ms g;refine⟨fun i o m a hm j=>?_,fun i o m a hm t=>?_,fun i o m a hm t=>?_,by simpa using e,fun i j m k hm f n=>?_,fun i o a=>?_⟩
 ·rw[(b i o m (by simpa using a) hm).1,pS]
 ·rw[(b i o m (by simpa using a) hm).2.1,uf]
 ·rw[(b i o m (by simpa using a) hm).2.2,nz]
 ·have:=rl ms ms 0 c i m hm
  rw[ar]at this;have:=uK i m ms 0 this j k f (by rwa [ar]);rwa [ar]at this
 ·exact uG _ d o (aR (by rw[aA];exact a))
theorem BW{ms:List DM}(hm:MsOk ops ms){i j:Nat}{a e:Oper}{f g:DM}(n:ops[i]? =some a) (k:ops[j]? =some e) (b:ms[i]? =some f) (c:ms[j]? =some g) (h:qL f g=true):
  (∀d,a.dst=some d→d∉e.looksAt ops)∧(∀d,a.dst=some d→e.dst≠some d)∧(∀d,e.dst=some d→d∉a.looksAt ops):=by
 unfold qL at h;rw[aG]at h;refine⟨fun d hd m=>?_,fun d hd o=>?_,fun d hd m=>?_⟩
 ·exact qJ h.1 d ((hm.ds i a f n b d).2 hd) (by rw[ic,(hm.lk j e g k c d).2 m,Bool.true_or])
 ·exact qJ h.1 d ((hm.ds i a f n b d).2 hd) (by rw[ic,(hm.ds j e g k c d).2 o,Bool.or_true])
 ·exact qJ h.2 d ((hm.ds j e g k c d).2 hd) ((hm.lk i a f n b d).2 m)
structure LsRel(ops:Array Oper)(ls:Nat)(listed:Array Bool):Prop where
 size:listed.size=ops.size
 bit:∀j,listed.getD j false=ls.testBit j
theorem LsRel.start:LsRel ops 0 (g9 ops.size false):=⟨by simp,fun j=>by
 rw[Nat.zero_testBit,bB]
 by_cases h:j<ops.size<;>simp[h]⟩
theorem LsRel.put{ls:Nat}{listed:Array Bool}(h:LsRel ops ls listed){i:Nat}(a:i<ops.size):LsRel ops (bo ls (dC i)) (listed.setIfInBounds i true):=by
 refine⟨by simp[h.size],fun j=>?_⟩
 rw[ic,oZ,←h.bit];by_cases e:i=j
 ·subst e;simp[h.size,a]
 ·simp[e,cy e]
theorem LsRel.unlisted{ls:Nat}{listed:Array Bool}(h:LsRel ops ls listed){i:Nat}(a:i<ops.size):listed.getD i true=ls.testBit i:=by
 rw[←h.bit];have:i<listed.size:=by rw[h.size];exact a
 simp[this]
theorem uC{ms:List DM}(hm:MsOk ops ms){ls:Nat}{listed:Array Bool}(h:LsRel ops ls listed){j:Nat}:j∈Region.ready .any ops listed↔∃m,ms[j]? =some m∧ls.testBit j=false∧vR m ls=true:=by
 rw[mem_ready];constructor
 ·rintro⟨i,o,n,g⟩
  have a:j<ops.size:=(aU.1 n).1;have c:j<ms.length:=by rw[hm.len];exact a
  refine⟨ms[j],aq c,by rw[←h.unlisted a];exact i,?_⟩
  unfold vR;have:eR (ms[j]).am ls=(ms[j]).am:=by
   apply Nat.eq_of_testBit_eq;intro t;have b:(eR (ms[j]).am ls).testBit t=((ms[j]).am.testBit t&&ls.testBit t):=fO _ _ t;rw[b];cases ht:(ms[j]).am.testBit t with
   |false=>rfl
   |true=>
    rw[hm.am j o _ n (aq c)]at ht;unfold eA at ht;obtain⟨e,k,d⟩:=bE.1 ht;simp only[aG]at d;have:=g e (by simpa using k) d.2;rw[au d.1,h.bit]at this;rw[this];rfl
  rw[this];exact kd _
 ·rintro⟨m,f,i,p⟩
  have a:j<ops.size:=by rw[←hm.len];exact(bw.1 f).1
  refine⟨by rw[h.unlisted a];exact i,ops[j],eE a,fun e k d=>?_⟩
  rw[h.bit];refine CM p e.on ?_;rw[hm.am j _ m (eE a) f];unfold eA;exact bE.2 ⟨e,by simpa using k,by simp[d]⟩
theorem kh(ls:Nat):∀(l:List DM) (j0 j:Nat),j∈gf ls l j0↔∃k m,l[k]? =some m∧j=j0+k∧ls.testBit j=false∧vR m ls=true
 | [],j0,j=>by simp[show gf ls [] j0= []from rfl]
 |m::l,j0,j=>by
  have hc:gf ls (m::l) j0=bif !(tb ls j0)&&vR m ls then j0::gf ls l (cV j0)else gf ls l (cV j0):=rfl;have e:=kh ls l (j0+1) j;rw[hc,pp];have step:(∃k c,(m::l)[k]? =some c∧j=j0+k∧ls.testBit j=false∧vR c ls=true)↔(j=j0∧ls.testBit j0=false∧vR m ls=true)∨j∈gf ls l (j0+1):=by
   rw[e];constructor
   ·rintro⟨k,c,d,rfl,b,a⟩
    cases k with
    |zero=>simp only[bM,aN.injEq]at d;subst d;exact .inl ⟨rfl,b,a⟩
    |succ k=>exact .inr ⟨k,c,by simpa using d,by omega,b,a⟩
   ·rintro(⟨rfl,b,a⟩|⟨k,c,d,rfl,b,a⟩)
    ·exact⟨0,m,rfl,rfl,b,a⟩
    ·exact⟨k+1,c,by simpa using d,by omega,b,a⟩
  rw[step];cases hb:(!(ls.testBit j0)&&vR m ls)with
  |true=>
   simp only[aG,Bool.not_eq_true']at hb;rw[cond_true,ai];simp[hb.1,hb.2]
  |false=>
   rw[cond_false];constructor
   ·exact .inr
   ·rintro(⟨_,b,a⟩|h)
    ·rw[b,a]at hb;cases hb
    ·exact h
theorem gr{ms:List DM}(hm:MsOk ops ms){ls:Nat}{listed:Array Bool}(h:LsRel ops ls listed){j:Nat}:j∈Region.ready .any ops listed↔j∈gf ls ms 0:=by
 rw[uC hm h,kh];constructor
 ·rintro⟨m,a,b,c⟩;exact⟨j,m,a,by omega,b,c⟩
 ·rintro⟨k,m,a,rfl,b,c⟩;exact⟨m,by simpa using a,b,c⟩
theorem nM:∀{a b:List Nat},mz a b=true→a=b
 | [],[],_=>rfl
 | [],_::_,h=>by cases h
 |_::_,[],h=>by cases h
 |a::as,b::bs,h=>by
  simp only[mz,aG]at h;rw[au h.1,nM h.2]
end Go.Lift
namespace Go.Lift
open Go
variable {P:Program} {ro:Option Nat} {n:Nat} {ops:Array Oper} {Q:Exit→Act→World→Prop}
theorem pn{m:Nat}{p:Nat→Bool}(hm:∀j,m.testBit j=true→p j=true):∀(l:List DM) (j0:Nat),(∀j x,l[j]? =some x→p (j0+j)=true→∀k,x.am.testBit k=true→p k=true)→∀k,(upM m l j0).testBit k=true→p k=true
 | [],_,_,k,h=>hm k h
 |x::l,j0,hl,k,h=>by
  have hc:upM m (x::l) j0=bif tb m j0 then bo x.am (upM m l (cV j0))else upM m l (cV j0):=rfl;have a:=pn hm l (j0+1) (fun j y c b=>hl (j+1) y (by simpa using c) (by rw[show j0+(j+1)=j0+1+j by omega];exact b)) k
  rw[hc,pp]at h;cases hb:m.testBit j0 with
  |true=>
   rw[hb,cond_true,ic,eI]at h;rcases h with h|h
   ·exact hl 0 x rfl (hm _ hb) k h
   ·exact a h
  |false=>
   rw[hb,cond_false]at h;exact a h
theorem pm{m k:Nat}(h:m.testBit k=true):∀(l:List DM) (j0:Nat),(upM m l j0).testBit k=true
 | [],_=>h
 |x::l,j0=>by
  have hc:upM m (x::l) j0=bif tb m j0 then bo x.am (upM m l (cV j0))else upM m l (cV j0):=rfl;have a:=pm h l (j0+1);rw[hc];cases tb m j0 with
  |true=>rw[cond_true,ic,eI];exact .inr a
  |false=>exact a
def Shut(ms:List DM)(listed:Array Bool):Prop:=∀j x,ms[j]? =some x→listed.getD j false=true→∀k,x.am.testBit k=true→listed.getD k false=true
theorem Am{ms:List DM}{listed:Array Bool}(c:Shut ms listed){m:Nat}(hm:∀j,m.testBit j=true→listed.getD j false=true){k:Nat}(h:(pM ms m).testBit k=true):listed.getD k false=true:=by
 have a:∀j x,ms[j]? =some x→(fun k=>listed.getD k false) (0+j)=true→∀k,x.am.testBit k=true→(fun k=>listed.getD k false) k=true:=fun j x hx b=>c j x hx (by rw[ar]at b;exact b)
 unfold pM at h;exact pn (p:=fun k=>listed.getD k false) (pn (pn (pn hm ms 0 a) ms 0 a) ms 0 a) ms 0 a k h
theorem uQ{ms:List DM}{m k:Nat}(h:m.testBit k=true):(pM ms m).testBit k=true:=by
 unfold pM;exact pm (pm (pm (pm h ms 0) ms 0) ms 0) ms 0
noncomputable abbrev rel(ms:List DM)(i:Nat)(L:jR):jR:=pu (pM ms (vL ms i)) L
theorem eZ{m:Nat}{x:Nat×(ac→Prop)}:∀{L:jR},x∈pu m L↔x∈L∧tb m x.1=false
 | []=>by simp[pu]
 |(k,S)::L=>by
  have b:=eZ (m:=m) (x:=x) (L:=L);simp only[pu];cases hk:tb m k with
  |true=>
   rw[cond_true,b,ai];constructor
   ·exact fun h=>⟨.inr h.1,h.2⟩
   ·rintro⟨h|h,a⟩
    ·subst h;rw[hk]at a;cases a
    ·exact⟨h,a⟩
  |false=>
   rw[cond_false,ai,b,ai];constructor
   ·rintro(h|h)
    ·subst h;exact⟨.inl rfl,hk⟩
    ·exact⟨.inr h.1,h.2⟩
   ·rintro⟨h|h,a⟩
    ·exact .inl h
    ·exact .inr ⟨h,a⟩
def AA(ms:List DM)(ro:Option Nat)(n:Nat)(P:Program)(ops:Array Oper)(Q:Exit→Act→World→Prop):Nat→jR→Array Bool→Act→World→Prop
 |0,_,listed,a,w=>Region.ready .any ops listed= []∧Q .normal a w
 |f+1,L,listed,a,w=>(Region.ready .any ops listed= []→Q .normal a w)∧
  ∀i∈Region.ready .any ops listed,∀o,ops[i]? =some o→
   wpOpIn (FW ro) n P ops Q i (fun a' w'=>(∀x∈rel ms i L,x.2 w'.heap)∧AA ms ro n P ops Q f (rel ms i L) (listed.setIfInBounds i true) a' w') a w
theorem m9{o:Oper}{x:Nat×(ac→Prop)}:∀{L:jR},x∈iy o L↔x∈L∧eA o x.1=false
 | []=>by simp[iy]
 |(k,S)::L=>by
  have b:=m9 (o:=o) (x:=x) (L:=L);simp only[iy];cases hk:eA o k with
  |true=>
   rw[cond_true,b,ai];constructor
   ·exact fun h=>⟨.inr h.1,h.2⟩
   ·rintro⟨h|h,a⟩
    ·subst h;rw[hk]at a;cases a
    ·exact⟨h,a⟩
  |false=>
   rw[cond_false,ai,b,ai];constructor
   ·rintro(h|h)
    ·subst h;exact⟨.inl rfl,hk⟩
    ·exact⟨.inr h.1,h.2⟩
   ·rintro⟨h|h,a⟩
    ·exact .inl h
    ·exact .inr ⟨h,a⟩
theorem zQ{listed:Array Bool}{i:Nat}(h:i∈Region.ready .any ops listed):∃o,ops[i]? =some o:=by
 obtain⟨_,o,a,_⟩:=mem_ready.1 h;exact⟨o,a⟩
theorem yS{ms:List DM}:∀(f:Nat) (L:jR) (listed:Array Bool) (a:Act) (w:World),AA ms ro n P ops Q f L listed a w→wpAnyIn (FW ro) n P .any ops Q f listed a w
 |0,_,_,_,_,h=>h
 |f+1,L,listed,a,w,h=>⟨h.1,fun i b=>by
  obtain⟨o,c⟩:=zQ b
  exact wpOpIn_mono (fun a' w' d=>yS f _ _ a' w' d.2) (h.2 i b o c)⟩
theorem lU{ms:List DM}:∀(f:Nat) (L L':jR) (listed:Array Bool) (a:Act) (w:World),(∀x∈L',x∈L∨∀h,x.2 h)→AA ms ro n P ops Q f L listed a w→AA ms ro n P ops Q f L' listed a w
 |0,_,_,_,_,_,_,h=>h
 |f+1,L,L',listed,a,w,hs,h=>⟨h.1,fun i d o e=>by
  have b:∀x∈rel ms i L',x∈rel ms i L∨∀h,x.2 h:=fun x hx=>(hs x (eZ.1 hx).1).imp (fun h=>eZ.2 ⟨h,(eZ.1 hx).2⟩) id
  exact wpOpIn_mono (fun a' w' c=>⟨fun x hx=>(b x hx).elim (c.1 x) fun h=>h _,lU f _ _ _ a' w' b c.2⟩) (h.2 i d o e)⟩
def YG(P:Program)(ops:Array Oper)(S:ac→Prop)(o:Oper)(v:Value)(a:Act):Prop:=
 (Region.wanted o (yielded ops a.tmps)=true∧∀w:World,S w.heap→(execOp a.eval o).run P w=.ok (.value v) w)∨
 (Region.wanted o (yielded ops a.tmps)=false∧v=undef)
theorem YG.wpOp{S:ac→Prop}{i:Nat}{o:Oper}{v:Value}{a:Act}(e:ops[i]? =some o) (hd:∀c,o.op≠ .defer c) (d:YG P ops S o v a) {K:Act→World→Prop} {w:World} (f:S w.heap)
  (h:K (a.put o.dst v) w):wpOpIn (FW ro) n P ops Q i K a w:=by
 unfold wpOpIn;simp only[e];rcases d with⟨b,hv⟩|⟨b,rfl⟩
 ·simp only[b,if_true]
  refine⟨fun _ _=>trivial,?_⟩
  rw[Oper.semAt_eq _ _ _ hd,hv w f];exact h
 ·simp only[b,Bool.false_eq_true,if_false];exact⟨fun _ _=>trivial,h⟩
theorem YG.of_same{S:ac→Prop}{o:Oper}{v:Value}{a a':Act}(c:YG P ops S o v a)(d:execOp a'.eval o=execOp a.eval o)
  (b:Region.wanted o (yielded ops a'.tmps)=Region.wanted o (yielded ops a.tmps)):YG P ops S o v a':=by
 unfold YG at*;rw[d,b];exact c
theorem xm{S:ac→Prop}{j:Nat}{g i:Oper}{v:Value}(C:ops[j]? =some i)
  (A:(∀d,g.dst=some d→d∉i.looksAt ops)∧(∀d,g.dst=some d→i.dst≠some d)∧(∀d,i.dst=some d→d∉g.looksAt ops))
  (s:∀cs b,g.op≠ .select cs b) (z:∀cs b,i.op≠ .select cs b) (t:∀c,i.op≠ .defer c)
  (E:∀e a w,(∀c,e=.panic c→False)∨¬Q e a w) {K:Act→World→Prop} {a:Act} {w:World}
  (k:YG P ops S g v a) (h:wpOpIn (FW ro) n P ops Q j K (a.put g.dst v) w):
  wpOpIn (FW ro) n P ops Q j (fun a' w'=>YG P ops S g v a'∧K (a'.put g.dst v) w') a w:=by
 obtain⟨B,o,y⟩:=A;have p:∀c a w,¬Q (.panic c) a w:=fun c a w D=>(E (.panic c) a w).elim (fun h=>h c rfl) fun h=>h D
 have keep:∀(a:Act),YG P ops S g v a→∀u,YG P ops S g v (a.put i.dst u):=fun a k u=>
  k.of_same (execOp_put g s a i.dst u y) (wanted_put g a i.dst u y)
 unfold wpOpIn at*;simp only[C]at*;rw[wanted_put i a g.dst v B]at h;split
 ·rename_i hw
  simp only[hw,if_true]at h;refine⟨fun _ _=>trivial,?_⟩
  have h:=h.2;rw[Oper.semAt_eq _ _ _ t,execOp_put i z a g.dst v B]at h;rw[Oper.semAt_eq _ _ _ t];generalize (execOp a.eval i).run P w=r at*;cases r with
  |ok x w'=>
   cases x<;>simp only[Oper.uponIn]at h⊢
   case value u=>exact⟨keep a k u,by rw[←Act.put_comm a v u o];exact h⟩
   case skip=>exact⟨keep a k _,by rw[←Act.put_comm a v undef o];exact h⟩
   case defer d=>
    refine⟨(k.of_same (a':={a with defers:=d::a.defers}) rfl rfl).of_same (execOp_put g s _ i.dst undef y) (wanted_put g _ i.dst undef y),?_⟩;rw[←Act.put_comm _ v undef o,←Act.put_defers];exact h
   case enter f args=>
    refine⟨h.1,CallsIn.mono h.2 fun e q m=>?_⟩
    cases e with
    |returned u=>exact⟨keep a k u,by rw[←Act.put_comm a v u o];exact m⟩
    |panicked c=>exact(p _ _ _ m).elim
    |outgrown=>exact m
   case row row args=>exact⟨h.1,RowsIn.mono h.2 fun u q m=>⟨keep a k u,by rw[←Act.put_comm a v u o];exact m⟩⟩
   case round l f tmps assign body=>
    refine⟨h.1,RoundIn.mono h.2 fun e q m=>?_⟩
    cases e with
    |returned u=>exact⟨keep a k u,by rw[←Act.put_comm a v u o];exact m⟩
    |panicked c=>exact(p _ _ _ m).elim
    |outgrown=>exact m
  |halt x w'=>
   cases x<;>simp only[Oper.uponIn]at h⊢
   case panic u=>exact(p _ _ _ h).elim
 ·rename_i hw
  simp only[hw]at h;exact⟨fun _ _=>trivial,keep a k _,by rw[←Act.put_comm a v undef o];exact h.2⟩
theorem vK{ms:List DM}(hm:MsOk ops ms){i:Nat}{o:Oper}(a:ops[i]? =some o) (k:Nat):(vL ms i).testBit k=eA o k:=by
 have b:i<ms.length:=by rw[hm.len];exact(aU.1 a).1
 unfold vL;rw[aq b];exact hm.am i o _ a (aq b) k
theorem wn{ms:List DM}(hm:MsOk ops ms){listed:Array Bool}{j:Nat}(d:j∈Region.ready .any ops listed)(k:Nat)(b:(vL ms j).testBit k=true):listed.getD k false=true:=by
 obtain⟨_,o,g,a⟩:=mem_ready.1 d;rw[vK hm g]at b;unfold eA at b;obtain⟨e,f,c⟩:=bE.1 b;simp only[aG]at c;have:=a e (by simpa using f) c.2;rw[au c.1]at this;exact this
theorem wN{listed:Array Bool}{j k:Nat}(h:listed.getD k false=true):(listed.setIfInBounds j true).getD k false=true:=by
 by_cases e:j=k
 ·subst e
  rw[bB]at h⊢;rcases bV j listed.size with a|a
  ·simp[a]
  ·simp[fC a]at h
 ·rw[bB,cy e,←bB]
  exact h
theorem Shut.put{ms:List DM}(hm:MsOk ops ms){listed:Array Bool}(c:Shut ms listed){j:Nat}(d:j∈Region.ready .any ops listed):Shut ms (listed.setIfInBounds j true):=by
 intro i x hx b k a;by_cases e:j=i
 ·subst e
  refine wN (wn hm d k ?_);unfold vL;rw[hx];exact a
 ·rw[bB,cy e,←bB]at b
  exact wN (c i x hx b k a)
theorem sh{ms:List DM}(hm:MsOk ops ms){S:ac→Prop}{i:Nat}{y:Oper}{v:Value}(E:ops[i]? =some y) (g:∀(j:Nat) (o:Oper),ops[j]? =some o→(∀cs b,o.op≠ .select cs b)∧(∀c,o.op≠ .defer c))
  (hQ:∀e a w,(∀c,e=.panic c→False)∨¬Q e a w):
  ∀(fuel:Nat) (L:jR) (listed:Array Bool) (a:Act) (w:World),
   (∀j s,ops[j]? =some s→j≠i→listed.getD j true=false→eA s i=false→
    (∀d,y.dst=some d→d∉s.looksAt ops)∧(∀d,y.dst=some d→s.dst≠some d)∧(∀d,s.dst=some d→d∉y.looksAt ops))→
   Shut ms listed→i∈Region.ready .any ops listed→YG P ops S y v a→S w.heap→(∀x∈L,x.2 w.heap)→
   AA ms ro n P ops Q fuel ((i,S)::L) (listed.setIfInBounds i true) (a.put y.dst v) w→AA ms ro n P ops Q (fuel+1) L listed a w:=by
 intro fuel;induction fuel with
 |zero=>
  intro L listed a w _ _ z U W Y H;refine⟨fun h=>(by rw[h]at z;cases z),fun j G s f=>?_⟩
  by_cases m:j=i
  ·subst m
   rw[E]at f;cases f;exact U.wpOp E (g _ _ E).2 W ⟨fun x hx=>Y x (eZ.1 hx).1,H⟩
  ·have:=ready_mono G m
   rw[H.1]at this;cases this
 |succ fuel ih=>
  intro L listed a w q I z U W Y H;refine⟨fun h=>(by rw[h]at z;cases z),fun j G s f=>?_⟩
  by_cases m:j=i
  ·subst m
   rw[E]at f;cases f;exact U.wpOp E (g _ _ E).2 W ⟨fun x hx=>Y x (eZ.1 hx).1,lU _ _ _ _ _ _ (fun x hx=>.inl (aS _ (eZ.1 hx).1)) H⟩
  ·have p:=H.2 j (ready_mono G m) s f
   obtain⟨A,oj',B,M⟩:=mem_ready.1 G;rw[f]at B;cases B;have O:eA s i=false:=by
    cases u:eA s i with
    |false=>rfl
    |true=>
     unfold eA at u;obtain⟨e,Z,u⟩:=bE.1 u;simp only[aG]at u;have p:=M e (by simpa using Z) u.2;rw[au u.1]at p;have J:=(mem_ready.1 z).1;rcases bV i listed.size with F|F
     ·simp[F]at J p;rw[J]at p;cases p
     ·simp[fC F]at p
   have D:tb (pM ms (vL ms j)) i=false:=by
    cases u:tb (pM ms (vL ms j)) i with
    |false=>rfl
    |true=>
     rw[pp]at u;have p:=Am I (wn hm G) u;have J:=(mem_ready.1 z).1;rcases bV i listed.size with F|F
     ·simp[F]at J p;rw[J]at p;cases p
     ·simp[fC F]at p
   have T:rel ms j ((i,S)::L)=(i,S)::rel ms j L:=by simp only[rel,pu,D,cond_false]
   rw[T]at p;have h2:=xm f (q j s f m A O) (g _ _ E).1 (g _ _ f).1 (g _ _ f).2 hQ U p;have t:∀k C,ops[k]? =some C→k≠i→(listed.setIfInBounds j true).getD k true=false→eA C i=false→
     (∀d,y.dst=some d→d∉C.looksAt ops)∧(∀d,y.dst=some d→C.dst≠some d)∧(∀d,C.dst=some d→d∉y.looksAt ops):=fun k C hk X R V=>by
    refine q k C hk X ?_ V;by_cases N:j=k
    ·subst N;exact A
    ·rw[getD_set_ne true N]at R;exact R
   refine wpOpIn_mono (fun a' w' K=>⟨fun x hx=>K.2.1 x (aS _ hx),ih (rel ms j L) (listed.setIfInBounds j true) a' w' t (I.put hm G) (ready_mono z (Ne.symm m)) K.1 (K.2.1 _ (aC ..)) (fun x hx=>K.2.1 x (aS _ hx)) ?_⟩) h2
   rw[Array.setIfInBounds_comm _ _ m];exact K.2.2
theorem j6{h:ac}{R:Prop}:∀{L:jR},ko L h R↔(∀x∈L,x.2 h)∧R
 | []=>by simp[ko]
 |(k,S)::L=>by
  simp only[ko,j6 (L:=L),ai,forall_eq_or_imp,and_assoc]
theorem Az{ms:List DM}{f:Nat}{L:jR}{listed:Array Bool}{a:Act}{w:World}(b:Region.ready .any ops listed= [])(h:Q .normal a w):AA ms ro n P ops Q f L listed a w:=by
 cases f with
 |zero=>exact⟨b,h⟩
 |succ f=>exact⟨fun _=>h,by rw[b];simp⟩
def left(ops:Array Oper)(ls:Nat):Nat:=((cp ops.size).filter fun j=> !ls.testBit j).length
theorem ng{ls i:Nat}(k:i<ops.size)(f:ls.testBit i=false):left ops (bo ls (dC i))+1=left ops ls:=by
 have key:∀l:List Nat,l.Nodup→i∈l→(l.filter fun j=> !(bo ls (dC i)).testBit j).length+1=(l.filter fun j=> !ls.testBit j).length:=by
  intro l;induction l with
  |nil=>intro _ h;cases h
  |cons x l ih=>
   intro d hm;rw[List.nodup_cons]at d;by_cases hx:x=i
   ·subst hx
    have a:(l.filter fun j=> !(bo ls (dC x)).testBit j)=l.filter fun j=> !ls.testBit j:=by
     apply List.filter_congr;intro y g;have:x≠y:=fun e=>d.1 (e▸g)
     rw[ic,oZ,decide_eq_false this,Bool.or_false]
    have b:(bo ls (dC x)).testBit x=true:=by rw[ic,oZ];simp
    rw[co,co,b,f,a];rfl
   ·have c:i∈l:=by rcases ai.1 hm with h|h;exact absurd h.symm hx;exact h
    have b:(bo ls (dC i)).testBit x=ls.testBit x:=by rw[ic,oZ,decide_eq_false (Ne.symm hx),Bool.or_false]
    have:=ih d.2 c;rw[co,co,b];cases ls.testBit x with
    |true=>exact this
    |false=>exact congrArg (· +1) this
 exact key _ List.nodup_range (List.mem_range.2 k)
theorem Ac{N:Nat}{a:List Oper}{ms:List DM}{ls:Nat}{L:jR}{d:mh}{K:be→ac→Prop}{r:be}{b:ac}:∀{l:DA},gR P N a ms l true ls L d K r b→∃i,i∈qB l
 | .done,h=>h.elim
 | .take i rest,h=>by
  exfalso;have hc:gR P N a ms (.take i rest) true ls L d K r b=(match a[i]?,ms[i]? with|some _,some _=>False|_,_=>False):=rfl
  rw[hc]at h;split at h<;>exact h
 | .all _,h=>h.elim
 | .pick i _ _,_=>⟨i,aC ..⟩
 | .last i _,_=>⟨i,aC ..⟩
 | .lastT i _,_=>⟨i,aC ..⟩
 | .split ..,h=>h.elim
def yL(ro:Option Nat)(n:Nat)(P:Program)(ops:Array Oper)(Q:Exit→Act→World→Prop)(N:Nat)(ms:List DM)(W:Nat→Prop)(c:Act)(e:World)(K:be→ac→Prop)(b:DA):Prop:=
 ∀(m:Bool) (ls:Nat) (L:jR) (d:mh) (r:be) (a:Act) (w:World) (listed:Array Bool) (fuel:Nat),
  gR P N ops.toList ms b m ls L d K r w.heap→Agree N r a→DecOk d r→Fr W c e a w→LsRel ops ls listed→Shut ms listed→(∀x∈L,x.2 w.heap)→
  (m=false→left ops ls≤fuel→AA ms ro n P ops Q fuel L listed a w)∧
  (m=true→left ops ls≤fuel+1→∀i∈qB b,i∈gf ls ms 0→∀o,ops[i]? =some o→
   wpOpIn (FW ro) n P ops Q i (fun a' w'=>(∀x∈rel ms i L,x.2 w'.heap)∧AA ms ro n P ops Q fuel (rel ms i L) (listed.setIfInBounds i true) a' w') a w)
theorem wb{N:Nat}{ms:List DM}(hm:MsOk ops ms){W:Nat→Prop}(hW:∀o∈ops.toList,∀d,o.dst=some d→W d){a0:Act}{w0:World}{K:be→ac→Prop}
  (hQ:∀r a w,Agree N r a→Fr W a0 w0 a w→K r w.heap→Q .normal a w)(hnp:∀e a w,(∀c,e=.panic c→False)∨¬Q e a w)(da:DA):
  yL ro n P ops Q N ms W a0 w0 K da:=by
 have one:∀(i:Nat) (g:DA)
   (_:yL ro n P ops Q N ms W a0 w0 K g)
   (ls:Nat) (L:jR) (d:mh) (r:be) (a:Act) (w:World) (listed:Array Bool) (fuel:Nat),
   zJ P N ops.toList i L d r w.heap (fun L' d' D h'=>gR P N ops.toList ms g false (bo ls (dC i)) L' d' K D h')→Agree N r a→DecOk d r→Fr W a0 w0 a w→LsRel ops ls listed→Shut ms listed→
   left ops ls≤fuel+1→i∈gf ls ms 0→∀o,ops[i]? =some o→
    wpOpIn (FW ro) n P ops Q i (fun a' w'=>(∀x∈rel ms i L,x.2 w'.heap)∧AA ms ro n P ops Q fuel (rel ms i L) (listed.setIfInBounds i true) a' w') a w:=by
  intro i g U ls L d r a w listed fuel f y hd H z p A hr o s;have B:i<ops.size:=(aU.1 s).1;obtain⟨k,mm,hk,hki,J,_⟩:=(kh ls ms 0 i).1 hr;unfold zJ at f;rw[aA,s]at f;simp only at f;cases hw:ez ops.toList d o with
  |none=>rw[hw]at f;exact f.elim
  |some b=>
   rw[hw]at f;cases b with
   |false=>exact f.elim
   |true=>
    simp only at f;cases hq:mO P o.op with
    |true=>
     rw[hq,cond_true]at f;unfold wpOpIn;rw[s];simp only[gQ hw y hd,if_true];obtain⟨v,S,hK,hS,_,V⟩:=qs y f d hd;refine jz (K:=fun u h'=>u=v∧h'=w.heap) (ri f) (.inl ⟨v,w,V w hS,Tame.refl w,rfl,rfl⟩) ?_
     rintro u w' ht ⟨rfl,hw'⟩;obtain⟨D,F,G,I⟩:=lj (dv:=.x) hK y hd trivial;obtain⟨hh,X⟩:=j6.1 F;have C:o∈ops.toList:=aR (by rw[aA];exact s);have M:=ng B J;have E:∀x∈rel ms i L,x∈iy o L:=fun x hx=>m9.2 ⟨(eZ.1 hx).1,by
      cases hb:eA o x.1 with
      |false=>rfl
      |true=>
        have:=(eZ.1 hx).2
        rw[pp,uQ (by rw[vK hm s];exact hb)]at this;cases this⟩
     rw[←hw']at hh X;exact⟨fun x hx=>hh x (E x hx),lU _ _ _ _ _ _ (fun x hx=>.inl (E x hx)) ((U false _ _ _ D _ w' _ fuel X G I (H.put (hW o C) u ht) (z.put B) (p.put hm ((gr hm z).2 hr)) hh).1 rfl (by omega))⟩
    |false=>
     rw[hq,cond_false]at f;unfold wpOpIn;rw[s];simp only[gQ hw y hd,if_true];refine jz (m5 f) (qn y f) ?_;intro v w' ht hK;obtain⟨D,F,G,I⟩:=lj (dv:=.x) hK y hd trivial;obtain⟨hh,X⟩:=j6.1 F;have C:o∈ops.toList:=aR (by rw[aA];exact s);have M:=ng B J;have E:∀x∈rel ms i L,x∈iy o L:=fun x hx=>m9.2 ⟨(eZ.1 hx).1,by
      cases hb:eA o x.1 with
      |false=>rfl
      |true=>
        have:=(eZ.1 hx).2
        rw[pp,uQ (by rw[vK hm s];exact hb)]at this;cases this⟩
     exact⟨fun x hx=>hh x (E x hx),lU _ _ _ _ _ _ (fun x hx=>.inl (E x hx)) ((U false _ _ _ D _ w' _ fuel X G I (H.put (hW o C) v ht) (z.put B) (p.put hm ((gr hm z).2 hr)) hh).1 rfl (by omega))⟩
 have oneT:∀(i:Nat) (g:DA)
   (_:yL ro n P ops Q N ms W a0 w0 K g)
   (ls:Nat) (L:jR) (d:mh) (r:be) (a:Act) (w:World) (listed:Array Bool) (fuel:Nat),
   y2 P N ops.toList ms i L d r w.heap (fun L' d' D h'=>gR P N ops.toList ms g false (bo ls (dC i)) L' d' K D h')→Agree N r a→DecOk d r→Fr W a0 w0 a w→LsRel ops ls listed→Shut ms listed→
   left ops ls≤fuel+1→i∈gf ls ms 0→∀o,ops[i]? =some o→
    wpOpIn (FW ro) n P ops Q i (fun a' w'=>(∀x∈rel ms i L,x.2 w'.heap)∧AA ms ro n P ops Q fuel (rel ms i L) (listed.setIfInBounds i true) a' w') a w:=by
  intro i g U ls L d r a w listed fuel f y hd H z p A hr o s;have B:i<ops.size:=(aU.1 s).1;obtain⟨k,mm,hk,hki,J,_⟩:=(kh ls ms 0 i).1 hr;unfold y2 at f;rw[aA,s]at f;simp only at f;cases hw:ez ops.toList d o with
  |none=>rw[hw]at f;exact f.elim
  |some b=>
   rw[hw]at f;cases b with
   |false=>exact f.elim
   |true=>
    simp only at f;cases hq:mO P o.op with
    |true=>rw[hq]at f;exact f.elim
    |false=>
     rw[hq,cond_false]at f;unfold wpOpIn;rw[s];simp only[gQ hw y hd,if_true];refine jz (m5 f) (qn y f) ?_;intro v w' ht hK;obtain⟨D,F,G,I⟩:=lj (dv:=.x) hK y hd trivial;obtain⟨hh,X⟩:=j6.1 F;have C:o∈ops.toList:=aR (by rw[aA];exact s);have M:=ng B J;exact⟨hh,(U false _ _ _ D _ w' _ fuel X G I (H.put (hW o C) v ht) (z.put B) (p.put hm ((gr hm z).2 hr)) hh).1 rfl (by omega)⟩
 induction da with
 |done=>
  intro m ls L d r a w listed fuel f y hd H z p R;cases m with
  |true=>exact f.elim
  |false=>
   refine⟨fun _ _=>?_,fun h=>by cases h⟩
   have hc:gR P N ops.toList ms .done false ls L d K r w.heap=bif mz (gf ls ms 0) []then K r w.heap else False:=rfl;rw[hc]at f;cases hb:mz (gf ls ms 0) []with
   |false=>rw[hb]at f;exact f.elim
   |true=>
    rw[hb]at f;have hnil:Region.ready .any ops listed= []:=by
     apply List.eq_nil_iff_forall_not_mem.2;intro j O;rw[gr hm z,nM hb]at O;cases O
    exact Az hnil (hQ r a w y H f)
 |take i g U=>
  intro m ls L d r a w listed fuel f y hd H z p R;cases m with
  |true=>
   exfalso;have hc:gR P N ops.toList ms (.take i g) true ls L d K r w.heap=(match ops.toList[i]?,ms[i]? with|some _,some _=>False|_,_=>False):=rfl
   rw[hc]at f;split at f<;>exact f
  |false=>
   refine⟨fun _ A=>?_,fun h=>by cases h⟩
   have hc:gR P N ops.toList ms (.take i g) false ls L d K r w.heap=(match ops.toList[i]?,ms[i]? with
    |some o,some mi=>bif sD mi i ls ops.toList.length then
      (match ez ops.toList d o with
       |none=>False
       |some false=>oX N o undef r fun D=>gR P N ops.toList ms g false (bo ls (dC i)) L (j8 d o .u) K D w.heap
       |some true=>bif mO P o.op then
          qi P none o.op r (fun v S=>oX N o v r fun D=>match S with
            |none=>gR P N ops.toList ms g false (bo ls (dC i)) L (j8 d o (vS d o.op)) K D w.heap
            |some S=>gR P N ops.toList ms g false (bo ls (dC i)) ((i,S)::L) (j8 d o (vS d o.op)) K D w.heap) w.heap
          else False)
     else False
    |_,_=>False):=rfl
   rw[hc]at f;split at f
   ·rename_i o mi s hmi
    rw[aA]at s;cases htk:sD mi i ls ops.toList.length with
    |false=>rw[htk]at f;exact f.elim
    |true=>
     rw[htk,cond_true]at f;unfold sD at htk;simp only[aG,Bool.not_eq_true',pp]at htk;obtain⟨⟨hun,hrd⟩,hfr⟩:=htk;have B:i<ops.size:=(aU.1 s).1;have q:i∈Region.ready .any ops listed:=(uC hm z).2 ⟨mi,hmi,hun,hrd⟩;have M:=ng (ops:=ops) B hun;obtain⟨Z,rfl⟩:∃Z,fuel=Z+1:=⟨fuel-1,by omega⟩
     have C:o∈ops.toList:=aR (by rw[aA];exact s);have hcov:∀j,j<ops.size→ls.testBit j=true∨mi.fr.testBit j=true:=by
      intro j O;have h0:=au hfr;have hpb:(nH (dC ops.toList.length)).testBit j=true:=by
        have:nH (dC ops.toList.length)=2^ops.toList.length-1:=rfl;rw[this,Nat.testBit_two_pow_sub_one];simpa using O
      have hand:(eR (bo ls mi.fr) (nH (dC ops.toList.length))).testBit j=((bo ls mi.fr).testBit j&&(nH (dC ops.toList.length)).testBit j):=fO _ _ j;rw[h0,hpb,Bool.and_true,ic]at hand;exact(Bool.or_eq_true_iff).1 hand.symm
     have T:∀j oj,ops[j]? =some oj→j≠i→listed.getD j true=false→eA oj i=false→
        (∀d,o.dst=some d→d∉oj.looksAt ops)∧(∀d,o.dst=some d→oj.dst≠some d)∧(∀d,oj.dst=some d→d∉o.looksAt ops):=by
      intro j oj hoj hne hju hna;have O:j<ops.size:=(aU.1 hoj).1;rw[z.unlisted O]at hju;have hjm:j<ms.length:=by rw[hm.len];exact O
      have hmj:=aq hjm;rcases hcov j O with h|h
      · rw[h]at hju;cases hju
      · rcases hm.free i j mi _ hmi hmj h with h|h|h
        ·exact absurd h hne
        ·rw[hm.am j oj _ hoj hmj,hna]at h;cases h
        ·exact BW hm s hoj hmi hmj h
     cases hw:ez ops.toList d o with
     |none=>rw[hw]at f;exact f.elim
     |some b=>
      rw[hw]at f;have hwd:=gQ hw y hd;cases b with
      |false=>
        obtain⟨D,F,G,I⟩:=lj (dv:=.u) f y hd rfl;have hy:YG P ops (fun _=>True) o undef a:=.inr ⟨hwd,rfl⟩
        refine sh hm s hm.nosel hnp Z L listed a w T p q hy trivial R ?_;refine lU _ L _ _ _ _ (fun x hx=>(ai.1 hx).elim (fun e=>.inr fun h=>by rw[e];trivial) .inl) ?_
        exact(U false _ _ _ D _ w _ Z F G I (H.put (hW o C) undef (Tame.refl w)) (z.put B) (p.put hm q) R).1 rfl (by omega)
      |true=>
        simp only at f;cases hq:mO P o.op with
        |false=>rw[hq]at f;exact f.elim
        |true=>
         rw[hq,cond_true]at f;obtain⟨v,S,hK,hS,hdv,V⟩:=qs y f d hd;obtain⟨D,F,G,I⟩:=lj hK y hd hdv;have hfr':=H.put (hW o C) v (Tame.refl w);cases S with
         |none=>
           have hy:YG P ops (fun _=>True) o v a:=.inl ⟨hwd,fun w _=>V w trivial⟩
           refine sh hm s hm.nosel hnp Z L listed a w T p q hy trivial R ?_;refine lU _ L _ _ _ _ (fun x hx=>(ai.1 hx).elim (fun e=>.inr fun h=>by rw[e];trivial) .inl) ?_
           exact(U false _ _ _ D _ w _ Z F G I hfr' (z.put B) (p.put hm q) R).1 rfl (by omega)
         |some S=>
           have hy:YG P ops S o v a:=.inl ⟨hwd,fun w h=>V w h⟩
           refine sh hm s hm.nosel hnp Z L listed a w T p q hy hS R ?_;exact(U false _ _ _ D _ w _ Z F G I hfr' (z.put B) (p.put hm q) (fun x hx=>(ai.1 hx).elim (fun e=>by rw[e];exact hS) (R x))).1 rfl (by omega)
   ·exact f.elim
 |all l U=>
  intro m ls L d r a w listed fuel f y hd H z p R;cases m with
  |true=>exact f.elim
  |false=>
   refine⟨fun _ A=>?_,fun h=>by cases h⟩
   have hc:gR P N ops.toList ms (.all l) false ls L d K r w.heap=bif mz (gf ls ms 0) (qB l)then gR P N ops.toList ms l true ls L d K r w.heap else False:=rfl;rw[hc]at f;cases hb:mz (gf ls ms 0) (qB l)with
   |false=>rw[hb]at f;exact f.elim
   |true=>
    rw[hb,cond_true]at f;obtain⟨i,hi⟩:=Ac f;rw[←nM hb]at hi;have hrd:=(gr hm z (j:=i)).2 hi;obtain⟨k,mm,hk,hki,J,_⟩:=(kh ls ms 0 i).1 hi;have B:i<ops.size:=by
     have:=(bw.1 hk).1;rw[hm.len]at this;omega
    have M:=ng (ops:=ops) B J;obtain⟨Z,rfl⟩:∃Z,fuel=Z+1:=⟨fuel-1,by omega⟩
    refine⟨fun h=>(by rw[h]at hrd;cases hrd),fun j O o s=>?_⟩
    have hj':=(gr hm z).1 O;exact(U true ls L d r a w listed Z f y hd H z p R).2 rfl A j (by rw[←nM hb];exact hj') hj' o s
 |pick i g more ih1 ih2=>
  intro m ls L d r a w listed fuel f y hd H z p R;cases m with
  |false=>exact f.elim
  |true=>
   refine⟨fun h=>(by cases h),fun _ A j O Y o s=>?_⟩
   have f:zJ P N ops.toList i L d r w.heap (fun L' d' D h'=>gR P N ops.toList ms g false (bo ls (dC i)) L' d' K D h')∧gR P N ops.toList ms more true ls L d K r w.heap:=f
   rcases ai.1 O with rfl|O
   ·exact one _ g ih1 ls L d r a w listed fuel f.1 y hd H z p A Y o s
   ·exact(ih2 true ls L d r a w listed fuel f.2 y hd H z p R).2 rfl A j O Y o s
 |last i g U=>
  intro m ls L d r a w listed fuel f y hd H z p R;cases m with
  |false=>exact f.elim
  |true=>
   refine⟨fun h=>(by cases h),fun _ A j O Y o s=>?_⟩
   have f:zJ P N ops.toList i L d r w.heap (fun L' d' D h'=>gR P N ops.toList ms g false (bo ls (dC i)) L' d' K D h'):=f
   have hji:j=i:=ag.1 O;subst hji;exact one _ g U ls L d r a w listed fuel f y hd H z p A Y o s
 |lastT i g U=>
  intro m ls L d r a w listed fuel f y hd H z p R;cases m with
  |false=>exact f.elim
  |true=>
   refine⟨fun h=>(by cases h),fun _ A j O Y o s=>?_⟩
   have f:y2 P N ops.toList ms i L d r w.heap (fun L' d' D h'=>gR P N ops.toList ms g false (bo ls (dC i)) L' d' K D h'):=f
   have hji:j=i:=ag.1 O;subst hji;exact oneT _ g U ls L d r a w listed fuel f y hd H z p A Y o s
 |split t yes no ih1 ih2=>
  intro m ls L d r a w listed fuel f y hd H z p R;cases m with
  |true=>exact f.elim
  |false=>
   refine⟨fun _ A=>?_,fun h=>by cases h⟩
   have hc:gR P N ops.toList ms (.split t yes no) false ls L d K r w.heap=(match fo r t with
    |some (.bool b)=>CondP b (gR P N ops.toList ms yes false ls L ((t,.t)::d) K ((t,.bool true)::r) w.heap) (gR P N ops.toList ms no false ls L ((t,.f)::d) K ((t,.bool false)::r) w.heap)
    |_=>False):=rfl
   rw[hc]at f;split at f
   ·rename_i b hlk
    cases b with
    |true=>exact(ih1 false ls L _ _ a w listed fuel (f.yes rfl) (y.known hlk) (hd.known rfl) H z p R).1 rfl A
    |false=>exact(ih2 false ls L _ _ a w listed fuel (f.no rfl) (y.known hlk) (hd.known rfl) H z p R).1 rfl A
   ·exact f.elim
end Go.Lift
namespace Go.Lift
open Go
variable {P:Program} {ro:Option Nat} {n:Nat}
theorem uH{r:be}:∀{l:List Nat} {r0:be},zk r l=some r0→∀t v,fo r0 t=some v→t∈l∧fo r t=some v
 | [],r0,h,t,v,hv=>by cases h;cases hv
 |s::l,r0,h,t,v,hv=>by
  have h:(match fo r s,zk r l with|some v,some l=>some ((s,v)::l)|_,_=>none)=some r0:=h
  split at h
  ·rename_i u l' hu hl
   cases h;by_cases e:s=t
   ·subst e;rw[dY]at hv;cases hv;exact⟨aC ..,hu⟩
   ·rw[dD u _ e]at hv
    have:=uH hl t v hv;exact⟨aS _ this.1,this.2⟩
  ·cases h
theorem qx{m:Nat}{t:Nat}{v:Value}:∀{r:be},fo (ni m r) t=some v→m.testBit t=false∧fo r t=some v
 | [],h=>by cases h
 |(k,u)::r,h=>by
  have h:fo (bif tb m k then ni m r else(k,u)::ni m r) t=some v:=h;cases hk:tb m k with
  |true=>
   rw[hk]at h;have:=qx h;by_cases e:k=t
   ·subst e;rw[pp,this.1]at hk;cases hk
   ·rw[dD u _ e];exact this
  |false=>
   rw[hk]at h;have h:fo ((k,u)::ni m r) t=some v:=h;by_cases e:k=t
   ·subst e;rw[dY]at h⊢;rw[pp]at hk;exact⟨hk,h⟩
   ·rw[dD u _ e]at h⊢;exact qx h
theorem qm{t:Nat}:∀{l:List Oper},(AC l).testBit t=false→¬ga t l=true
 | [],_,h=>by cases h
 |o::l,hm,h=>by
  have hm:(bo (g6 o) (AC l)).testBit t=false:=hm;rw[ic,gk]at hm;have h:(match o.dst with|some d=>bif aI d t then true else ga t l|none=>ga t l)=true:=h
  cases hd:o.dst with
  |none=>rw[hd]at h;exact qm hm.2 h
  |some d=>
   rw[hd]at h;cases e:aI d t with
   |true=>have:=(nz o t).2 (by rw[hd,au e]);rw[hm.1]at this;cases this
   |false=>simp only[e]at h;exact qm hm.2 h
theorem wD{a b:Option Nat}{m:Nat}(h:Eg a b=some m):∃x y,a=some x∧b=some y∧m=bo x y:=by
 cases a<;>cases b<;>cases h
 exact⟨_,_,rfl,rfl,rfl⟩
theorem AB{t:Nat}(c:Code):∀{m:Nat},oa c=some m→m.testBit t=false→¬dq t c=true:=by
 induction c with
 |skip=>intro m _ _ h;cases h
 |region id ops dr=>intro m h hm d;cases h;exact qm hm d
 |seq a b iha ihb=>
  intro m h hm d;obtain⟨x,y,hx,e,rfl⟩:=wD (show Eg (oa a) (oa b)=some m from h)
  rw[ic,gk]at hm;have d:(bif dq t a then true else dq t b)=true:=d;cases ha:dq t a with
  |true=>exact iha hx hm.1 ha
  |false=>rw[ha]at d;exact ihb e hm.2 d
 |cond c a b iha ihb=>
  intro m h hm d;obtain⟨x,y,hx,e,rfl⟩:=wD (show Eg (oa a) (oa b)=some m from h)
  rw[ic,gk]at hm;have d:(bif dq t a then true else dq t b)=true:=d;cases ha:dq t a with
  |true=>exact iha hx hm.1 ha
  |false=>rw[ha]at d;exact ihb e hm.2 d
 |block id b ih=>exact fun h hm=>ih h hm
 |loop b ih=>exact fun h hm=>ih h hm
 |rangeFunc _ _ _ _ _ _=>intro m h;cases h
 |scope b ih=>exact fun h hm=>ih h hm
 |_=>intro m _ _ h;cases h
theorem Agree.keep{N:Nat}{r f:be}{a a':Act}{w w':World}{m:Nat}{c:Code}(h:Agree N r a)(hm:oa c=some m)(g:Fr (fun t=>dq t c=true) a w a' w')(e:Agree N f a'):Agree N (ni m r) a':=
 ⟨e.size,fun t v hv=>by
  obtain⟨b,d⟩:=qx hv
  rw[g.same t (AB c hm b)];exact h.look t v d⟩
theorem m6{a:St}{r:be}{f:mo (oE a)→Prop}(h:re a r f):∃t,sI r a=some (gK (oE a) t)∧f t:=by
 unfold re at h;split at h
 ·rename_i vs hv
  obtain⟨t,rfl,b⟩:=kA h;exact⟨t,hv,b⟩
 ·exact h.elim
theorem Agree.zip{N:Nat}{r:be}{a:Act}(h:Agree N r a):∀{st:St} {vs:List Value} {r0:be},sI r st=some vs→Agree N r0 a→Agree N (gZ st vs r0) a
 | [],vs,r0,_,h0=>by cases vs<;>exact h0
 |(i,k)::st,vs,r0,hv,h0=>by
  unfold sI at hv;split at hv
  ·rename_i v vs' h1 h2
   cases hv;have:=Agree.zip h h2 h0;refine⟨this.size,fun t u b=>?_⟩
   by_cases e:i=t
   ·subst e
    rw[show gZ ((i,k)::st) (v::vs') r0=(i,v)::gZ st vs' r0 from rfl,dY]at b;cases b
    exact h.look i v h1
   ·rw[show gZ ((i,k)::st) (v::vs') r0=(i,v)::gZ st vs' r0 from rfl,dD v _ e]at b
    exact this.look t u b
  ·cases hv
theorem pj{t:Nat}:∀{l:List Oper} {o:Oper},o∈l→o.dst=some t→ga t l=true
 | [],_,h,_=>by cases h
 |x::l,o,h,hd=>by
  have e:ga t (x::l)=(match x.dst with|some d=>bif aI d t then true else ga t l|none=>ga t l):=rfl
  rw[e];rcases ai.1 h with rfl|h
  ·rw[hd];simp only;rw[show aI t t=true from kd t];rfl
  ·have:=pj h hd
   cases x.dst with
   |none=>exact this
   |some d=>
    simp only;cases aI d t with
    |true=>rfl
    |false=>exact this
def LWP(ro:Option Nat)(n:Nat)(P:Program)(c:Code)(Q:Exit→Act→World→Prop)(a:Act)(w:World):Prop:=
 ∀(b:Frame) (k:List Item) (cs:List Frame),b.roundOf=(FW ro).round→(FW ro).fn b.fn→(FW ro).room (cs.length+1+n)→
  ∃e a' w',Q e a' w'∧ArrivesIn (Machine.fenced P (FW ro)) P (lone (b.atR a (.code c:: .inLoop c::k)) cs w) b k cs e a' w'
theorem LWP.step{c:Code}{Q:Exit→Act→World→Prop}{a:Act}{w:World}(h:c.wpIn (FW ro) n P (Exit.then (LWP ro n P c Q) Q) a w):LWP ro n P c Q a w:=by
 intro b k cs j o p;obtain⟨e,i,m,g,d⟩:=h b (.inLoop c::k) cs j o p;cases e with
 |normal=>
  obtain⟨u,s,t,q,f⟩:=g b k cs j o p;exact⟨u,s,t,q,.of_steps (StepsIn.trans d (.one (fenced_calm o p rfl) stepR_inLoop)) f⟩
 |exit id=>exact⟨_,i,m,g,.pass (x:=.inLoop c) rfl (fun _ _=>.inl (by simp)) d⟩
 |goto l=>exact⟨_,i,m,g,.pass (x:=.inLoop c) rfl (fun _ _=>.inl (by simp)) d⟩
 |ret=>exact⟨_,i,m,g,.pass (x:=.inLoop c) rfl (fun _ _=>.inl (by simp)) d⟩
 |panic ch=>exact⟨_,i,m,g,.pass (x:=.inLoop c) rfl (fun _ _=>.inl (by simp)) d⟩
 |outgrown=>exact⟨_,i,m,g,.pass (x:=.inLoop c) rfl (fun _ _=>.inl (by simp)) d⟩
theorem LWP.loop{c:Code}{Q:Exit→Act→World→Prop}{a:Act}{w:World}(h:LWP ro n P c Q a w):(Code.loop c).wpIn (FW ro) n P Q a w:=by
 intro b k cs f g i;obtain⟨e,a',w',j,d⟩:=h b k cs f g i;exact⟨e,a',w',j,.of_steps (.one (fenced_calm g i rfl) stepR_loop) d⟩
theorem uP(r:be):DecOk [] r:=fun _=>.inl rfl
theorem Cz(ops:Array Oper)(ls:Nat):left ops ls≤ops.size:=by
 unfold left;exact Nat.le_trans (List.length_filter_le ..) (by simp)
theorem gc(f:P.follows .mixedOrders=true){N id:Nat}{ops:Array Oper}{g:Bool}{s:Ann}{K:be→ac→Prop}{r:be}{a:Act}{w:World}{Q:Exit→Act→World→Prop}
  (b:qp P N ops.toList g s K r w.heap)(k:Agree N r a)(q:∀c a w,¬Q (.panic c) a w)
  (m:∀r' a' w',Agree N r' a'→Fr (fun t=>ga t ops.toList=true) a w a' w'→K r' w'.heap→Q .normal a' w'):(Code.region id ops g).wpIn (FW ro) n P Q a w:=by
 have i:∀o∈ops.toList,∀d,o.dst=some d→ga d ops.toList=true:=fun o p d hd=>pj p hd
 cases g with
 |false=>
  have key:∀ek,sK P N ek ops.toList ops.toList [] K r w.heap→(Code.region id ops false).wpIn (FW ro) n P Q a w:=fun ek b=>by
   refine wpIn_region ?_;rw[List.range_eq_range',show ops.size=ops.toList.length from rfl]
   exact sJ i m ops.toList 0 rfl [] r a w b k (uP r) (Fr.refl _ a w)
  unfold qp at b;simp only at b;split at b
  ·exact key _ b
  ·exact key _ b
 |true=>
  unfold qp at b;simp only at b;generalize za ops.toList=ms at b;cases hm:rY ops.toList ms with
  |false=>rw[hm]at b;exact b.elim
  |true=>
   rw[hm,cond_true]at b;refine wpIn_region_any f (yS (ms:=ms) _ [] _ _ _ ?_);have u:Tame w {w with drawn:=w.drawn+1}:=⟨rfl,rfl,rfl⟩;have v:Fr (fun t=>ga t ops.toList=true) a w a {w with drawn:=w.drawn+1}:=⟨u,rfl,fun _ _=>rfl⟩
   refine(wb (xY hm) i m (fun e a w=>?_) _ false 0 [] [] r a {w with drawn:=w.drawn+1} _ ops.size b k (uP r) v LsRel.start (fun j x _ h=>by rw[(LsRel.start (ops:=ops)).bit,Nat.zero_testBit]at h;cases h) (fun x hx=>by cases hx)).1 rfl (Cz ops 0)
   cases e with
   |panic ch=>exact .inr (q _ a w)
   |_=>exact .inl fun c hc=>by cases hc
theorem sf(t:Nat)(x y:Code):dq t (.seq x y)=(bif dq t x then true else dq t y):=rfl
theorem q9(t:Nat)(c:Operand)(x y:Code):dq t (.cond c x y)=(bif dq t x then true else dq t y):=rfl
theorem vI{a b:Bool}:(bif a then true else b)=true↔a=true∨b=true:=by cases a<;>cases b<;>decide
theorem kU(u:P.follows .mixedOrders=true){N:Nat}(c:Code):∀(D:Ann) (Kn:be→ac→Prop) (Kx:Ex→be→ac→Prop) (r:be) (a:Act) (w:World) (Q:Exit→Act→World→Prop),
  fF P N c D Kn Kx r w.heap→Agree N r a→(∀R a w,¬Q (.panic R) a w)→
  (∀g a' w',Agree N g a'→Fr (fun t=>dq t c=true) a w a' w'→Kn g w'.heap→Q .normal a' w')→
  (∀i g a' w',Agree N g a'→Fr (fun t=>dq t c=true) a w a' w'→Kx (.exit i) g w'.heap→Q (.exit i) a' w')→
  (∀g a' w',Agree N g a'→Fr (fun t=>dq t c=true) a w a' w'→Kx .ret g w'.heap→Q .ret a' w')→
  c.wpIn (FW ro) n P Q a w:=by
 induction c with
 |skip=>
  intro D Kn Kx r a w Q j s _ z _ _;exact wpIn_skip (z r a w s (Fr.refl ..) j)
 |region id ops dr=>
  intro D Kn Kx r a w Q j s B z _ _;cases D with
  |reg keep inner=>
   have j:qp P N ops.toList dr inner (fun g K=>match zk g keep with|some r0=>Kn r0 K|none=>False) r w.heap:=j
   refine gc u j s B fun g a' w' M V hk=>?_
   split at hk
   ·rename_i r0 hr0
    refine z r0 a' w' ⟨M.size,fun t v hv=>M.look t v (uH hr0 t v hv).2⟩ V hk
   ·exact hk.elim
  |nil=>exact gc u (show qp P N ops.toList dr (.nil) Kn r w.heap from j) s B z
  |node x y=>exact gc u (show qp P N ops.toList dr (.node x y) Kn r w.heap from j) s B z
  |join st x y=>exact gc u (show qp P N ops.toList dr (.join st x y) Kn r w.heap from j) s B z
  |loop st y=>exact gc u (show qp P N ops.toList dr (.loop st y) Kn r w.heap from j) s B z
  |draw d=>exact gc u (show qp P N ops.toList dr (.draw d) Kn r w.heap from j) s B z
  |kinds k v=>exact gc u (show qp P N ops.toList dr (.kinds k v) Kn r w.heap from j) s B z
  |rf ks x y=>exact gc u (show qp P N ops.toList dr (.rf ks x y) Kn r w.heap from j) s B z
 |seq x y ihx ihy=>
  intro D Kn Kx r a w Q j s B z hx F;have E:∀{a' w'},Fr (fun t=>dq t x=true) a w a' w'→Fr (fun t=>dq t (.seq x y)=true) a w a' w':=fun h=>h.mono fun t S=>by rw[sf,vI];exact .inl S
  have C:∀{a' w' I H},Fr (fun t=>dq t x=true) a w a' w'→Fr (fun t=>dq t y=true) a' w' I H→Fr (fun t=>dq t (.seq x y)=true) a w I H:=
   fun h k=>(E h).trans (k.mono fun t S=>by rw[sf,vI];exact .inr S)
  have plain:∀U O,fF P N x U (fun g K=>fF P N y O Kn Kx g K) Kx r w.heap→(Code.seq x y).wpIn (FW ro) n P Q a w:=fun U O j=>by
   refine wpIn_seq (ihx U _ Kx r a w _ j s (fun R a w=>B R a w) ?_ (fun i g a' w' q p o=>hx i g a' w' q (E p) o) (fun g a' w' q p o=>F g a' w' q (E p) o))
   intro r1 W Y G A L;exact ihy O Kn Kx r1 W Y Q L G B (fun g a' w' q p o=>z g a' w' q (C A p) o) (fun i g a' w' q p o=>hx i g a' w' q (C A p) o) (fun g a' w' q p o=>F g a' w' q (C A p) o)
  cases D with
  |join st U O=>
   have j:(match oa x with
      |none=>False
      |some m=>Join (T:=mo (oE st)) (fun t K=>fF P N y O Kn Kx (gZ st (gK (oE st) t) (ni m r)) K)
       fun J=>fF P N x U (fun g K=>re st g fun t=>J t K) Kx r w.heap):=j
   split at j
   ·exact j.elim
   ·rename_i m hm
    refine wpIn_seq (ihx U _ Kx r a w _ j.run s (fun R a w=>B R a w) ?_ (fun i g a' w' q p o=>hx i g a' w' q (E p) o) (fun g a' w' q p o=>F g a' w' q (E p) o))
    intro r1 W Y G A L;obtain⟨t,hst,hs2⟩:=m6 L;have ha2:Agree N (gZ st (gK (oE st) t) (ni m r)) W:=G.zip hst (s.keep hm A G);exact ihy O Kn Kx _ W Y Q hs2 ha2 B (fun g a' w' q p o=>z g a' w' q (C A p) o) (fun i g a' w' q p o=>hx i g a' w' q (C A p) o) (fun g a' w' q p o=>F g a' w' q (C A p) o)
  |_=>exact plain _ _ j
 |cond c x y ihx ihy=>
  intro D Kn Kx r a w Q j s B z hx F;have j:(match bI r c with
   |some (.bool t)=>CondP t (fF P N x D.l Kn Kx r w.heap) (fF P N y D.r Kn Kx r w.heap)
   |_=>False):=j
  have E:∀{a' w'},Fr (fun t=>dq t x=true) a w a' w'→Fr (fun t=>dq t (.cond c x y)=true) a w a' w':=fun h=>h.mono fun t S=>by rw[q9,vI];exact .inl S
  have C:∀{a' w'},Fr (fun t=>dq t y=true) a w a' w'→Fr (fun t=>dq t (.cond c x y)=true) a w a' w':=fun h=>h.mono fun t S=>by rw[q9,vI];exact .inr S
  split at j
  ·rename_i t S
   refine wpIn_cond_split (fp s S) (fun e=>?_) (fun e=>?_)
   ·exact ihx _ Kn Kx r a w Q (j.yes e) s B (fun g a' w' q p o=>z g a' w' q (E p) o) (fun i g a' w' q p o=>hx i g a' w' q (E p) o) (fun g a' w' q p o=>F g a' w' q (E p) o)
   ·exact ihy _ Kn Kx r a w Q (j.no e) s B (fun g a' w' q p o=>z g a' w' q (C p) o) (fun i g a' w' q p o=>hx i g a' w' q (C p) o) (fun g a' w' q p o=>F g a' w' q (C p) o)
  ·exact j.elim
 |block id b ih=>
  intro D Kn Kx r a w Q j s B z hx F;refine wpIn_block (ih D Kn _ r a w _ j s (fun R a w=>B R a w) z (fun i g a' w' q p o=>?_) F)
  simp only[Exit.inBlock]at o⊢;cases hi:aI i id with
  |true=>
   rw[hi,cond_true]at o;rw[if_pos (au hi)];exact z g a' w' q p o
  |false=>
   rw[hi,cond_false]at o;rw[if_neg (fun e=>by rw[e,kd]at hi;cases hi)]
   exact hx i g a' w' q p o
 |loop b ih=>
  intro D Kn Kx r a w Q j s B z hx F;cases D with
  |loop st O=>
   have j:(match oa b with
      |none=>False
      |some m=>re st r fun t0=>LoopP (T:=mo (oE st)) (fun Z t K=>fF P N b O (fun g h''=>re st g fun t'=>Z t' h'') Kx (gZ st (gK (oE st) t) (ni m r)) K) t0 w.heap):=j
   split at j
   ·exact j.elim
   ·rename_i m hm
    obtain⟨t0,hst0,hl⟩:=m6 j;have h0:=hl.run (fun t K=>∀a' w',w'.heap=K→Agree N (gZ st (gK (oE st) t) (ni m r)) a'→Fr (fun t=>dq t b=true) a w a' w'→LWP ro n P b Q a' w') (fun t K hF a' w' hw M V=>by
     subst hw
     refine LWP.step (ih O _ Kx _ a' w' _ hF M (fun R a w=>B R a w) ?_ (fun i g I H q p o=>hx i g I H q (V.trans p) o) (fun g I H q p o=>F g I H q (V.trans p) o))
     intro r1 W Y G A L
     obtain⟨t1,X,hk1⟩:=m6 L
     exact hk1 W Y rfl (G.zip X (s.keep hm (V.trans A) G)) (V.trans A))
    exact LWP.loop (h0 a w rfl (s.zip hst0 (s.keep hm (Fr.refl _ a w) s)) (Fr.refl _ a w))
  |_=>exact j.elim
 |rangeFunc f params assign body _ _=>intro D Kn Kx r a w Q j;exact j.elim
 |exit id=>
  intro D Kn Kx r a w Q j s B z hx F;exact wpIn_exit (hx id r a w s (Fr.refl ..) j)
 |scope b _=>intro D Kn Kx r a w Q j;exact j.elim
 |label l=>
  intro D Kn Kx r a w Q j s B z hx F;exact wpIn_label (z r a w s (Fr.refl ..) j)
 |goto l=>intro D Kn Kx r a w Q j;exact j.elim
 |ret=>
  intro D Kn Kx r a w Q j s B z hx F;exact wpIn_ret (F r a w s (Fr.refl ..) j)
 |refuse why=>intro D Kn Kx r a w Q j;exact j.elim
end Go.Lift
namespace Go.Lift
open Go
variable {P:Program}
theorem ju{N:Nat}{r:be}{a:Act}{w:World}(e:Agree N r a):∀{l:List ResultVar} {K:List Value→Prop},g3 P r w.heap l K→
  ∃vs,(∀g:ResultVar→Sem Value,(∀t,g (.tmp t)=pure (a.tmps.getD t undef))→(∀x t,g (.cell x t)=do loadVar t (←asAddr (a.tmps.getD x undef)))→(l.mapM g).run P w=.ok vs w)∧K vs
 | [],K,h=>⟨[],fun g _ _=>by rw[List.mapM_nil];rfl,h⟩
 | .tmp t::l,K,h=>by
  unfold g3 at h;split at h
  ·rename_i v hv
   obtain⟨vs,i,f⟩:=ju e h;refine⟨v::vs,fun g c d=>?_,f⟩
   rw[List.mapM_cons,c];simp only[Sem.run_bind,Sem.run_pure,Result.andThen_ok];rw[i g c d];simp only[Result.andThen_ok,e.look t v hv]
  ·exact h.elim
 | .cell x t::l,K,h=>by
  unfold g3 at h;split at h
  ·rename_i v hv
   obtain⟨u,S,n,m,k⟩:=rj h;obtain⟨vs,i,f⟩:=ju e n;refine⟨u::vs,fun g c d=>?_,f⟩
   rw[List.mapM_cons,d];have j:(do loadVar t (←asAddr (a.tmps.getD x undef)):Sem Value).run P w=.ok u w:=by
    rw[e.look x v hv];unfold wp at h;cases v with
    |pointer p=>cases p with
     |none=>exact h.elim
     |some b=>exact k w m
    |_=>exact h.elim
   simp only[Sem.run_bind]at j⊢;rw[j];simp only[Result.andThen_ok];rw[i g c d];simp only[Sem.run_pure,Result.andThen_ok]
  ·exact h.elim
theorem uB(ks:List Kind)(t:mo ks):(if h:(gK ks t).toArray.size=1 then(gK ks t).toArray[0]else Value.tuple (gK ks t).toArray)=rE ks (gK ks t):=by
 match ks,t with
 | [],t=>rfl
 | [k],t=>rfl
 |k::l::ks,(x,t)=>
  have:(gK (k::l::ks) (x,t)).length=(k::l::ks).length:=li _ _;rw[dif_neg (by simp only[bG,this,aQ];omega)];rfl
theorem mG:∀(vs:List Value) (i t:Nat) (v:Value),fo (jy i vs) t=some v→i≤t∧vs[t-i]? =some v
 | [],i,t,v,h=>by cases h
 |u::vs,i,t,v,h=>by
  by_cases e:i=t
  ·subst e
   rw[show jy i (u::vs)=(i,u)::jy (i+1) vs from rfl,dY]at h
   cases h;exact⟨Nat.le_refl _,by simp⟩
  ·rw[show jy i (u::vs)=(i,u)::jy (i+1) vs from rfl,dD u _ e]at h
   obtain⟨b,a⟩:=mG vs (i+1) t v h;refine⟨by omega,?_⟩;rw[show t-i=(t-(i+1))+1 by omega,List.getElem?_cons_succ]
   exact a
theorem zx(f:P.follows .mixedOrders=true){n:Nat}{fn:Func}{c:Code}{m:Ann}{args:List Value}{ks:List Kind}{K:mo ks→ac→Prop}{w:World}(o:args.length≤fn.ntmps)(p:ux P fn c m args ks K w.heap):
  c.wpIn (FW none) n P (bodyPost P fn fun e w'=>Tame w w'∧∃t:mo ks,e=.returned (rE ks (gK ks t))∧K t w'.heap) {tmps:=args.toArray++g9 (fn.ntmps-args.toArray.size) undef,defers:= []} w:=by
 have u:Agree fn.ntmps (jy 0 args) {tmps:=args.toArray++g9 (fn.ntmps-args.toArray.size) undef,defers:= []}:=by
  refine⟨by simp;omega,fun t v hv=>?_⟩
  obtain⟨_,i⟩:=mG args 0 t v hv;simp only[c7]at i;have b:=(bw.1 i).1;simp[Array.getElem?_append,b];rw[aq b]at i;cases i;rfl
 have fin:∀k a' (w':World),Agree fn.ntmps k a'→Fr (fun t=>dq t c=true) {tmps:=args.toArray++g9 (fn.ntmps-args.toArray.size) undef,defers:= []} w a' w'→
   g3 P k w'.heap fn.results.toList (fun vs=>rM ks vs fun t=>K t w'.heap)→
   a'.defers= []∧∃v,(results fn a'.tmps).run P w'=.ok v w'∧(Tame w w'∧∃t:mo ks,Ending.returned v=.returned (rE ks (gK ks t))∧K t w'.heap):=fun k a' w' j d q=>by
  obtain⟨vs,g,hd⟩:=ju j q;obtain⟨t,rfl,s⟩:=kA hd;refine⟨d.defers,_,?_,d.tame,t,rfl,s⟩;unfold results;rw[gI];simp only[Sem.run_bind,Sem.run_map];rw[g _ (fun _=>rfl) (fun _ _=>rfl)]
  simp only[Result.andThen_ok,Sem.run_pure];rw[←uB]
 exact kU f c m _ _ _ _ w _ p u (fun x a w h=>h.2.2.elim fun _ h=>by cases h.1) fin (fun _ _ _ _ _ _ h=>h.elim) fin
theorem HE.intro(b:P.follows .mixedOrders=true){f:FuncId}{fn:Func}{c:Code}{i:Ann}{args:List Value}{ks:List Kind}{K:mo ks→ac→Prop}{h:ac}
  (k:P.funcs[f]? =some fn) (e:fn.body=some c) (a:∀(args:Array Value) (w:World),(callFunc f args).run P w=.ok (.enter f args) w) (d:args.length≤fn.ntmps)
  (g:ux P fn c i args ks K h):HE P f args ks K h:=by
 refine⟨fun w j=>⟨a,?_⟩⟩
 subst j;exact(callsIn_wide (n:=0)).1 (callsIn_of_wp (F:=FW none) k e trivial (zx b d g) rfl)
theorem HD.intro(b:P.follows .mixedOrders=true){f:FuncId}{fn:Func}{c:Code}{m:Ann}{args:List Value}{ks:List Kind}{K:ac→Prop}{h:ac}
  (s:P.funcs[f]? =some fn) (i:fn.body=some c) (a:∀(args:Array Value) (w:World),(callFunc f args).run P w=.ok (.enter f args) w) (d:args.length≤fn.ntmps)
  (j:ux P fn c m args ks (fun _ h'=>K h') h):HD P f args K h:=by
 refine fun w p=>⟨a,fun n=>?_⟩
 subst p;exact(callsDIn_of_wp (F:=FW none) s i trivial (zx b d j) rfl).mono fun e u w' ⟨o,q,t,g,k⟩=>⟨o,q,⟨_,g⟩,k⟩
theorem HC.intro(b:P.follows .mixedOrders=true){f:FuncId}{fn:Func}{c:Code}{i:Ann}{args:List Value}{ks:List Kind}{K:mo ks→ac→Prop}{h:ac}
 (j:P.funcs[f]? =some fn) (e:fn.body=some c) (a:∀(args:Array Value) (w:World),(callFunc f args).run P w=.ok (.enter f args) w) (d:args.length≤fn.ntmps)
 (g:ux P fn c i args ks K h):HC P f args ks K h:=(HE.intro b j e a d g).hc
theorem yC{N:Nat}{args:List Value}(c:args.length≤N):Agree N (jy 0 args) {tmps:=args.toArray++g9 (N-args.toArray.size) undef,defers:= []}:=by
 refine⟨by simp;omega,fun t v hv=>?_⟩
 obtain⟨_,b⟩:=mG args 0 t v hv;simp only[c7]at b;have a:=(bw.1 b).1;simp[Array.getElem?_append,a];rw[aq a]at b;cases b;rfl
theorem wm{N:Nat}{fn:Func}{ks:List Kind}{K:mo ks→ac→Prop}{c:be}{a':Act}{w':World}(b:Agree N c a')(d:g3 P c w'.heap fn.results.toList (fun vs=>rM ks vs fun t=>K t w'.heap)):
  ∃t:mo ks,(results fn a'.tmps).run P w'=.ok (rE ks (gK ks t)) w'∧K t w'.heap:=by
 obtain⟨vs,a,hd⟩:=ju b d;obtain⟨t,rfl,e⟩:=kA hd;refine⟨t,?_,e⟩;unfold results;rw[gI];simp only[Sem.run_bind,Sem.run_map];rw[a _ (fun _=>rfl) (fun _ _=>rfl)]
 simp only[Result.andThen_ok,Sem.run_pure];rw[←uB]
end Go.Lift
namespace Go.Lift
open Go
variable {P:Program}
abbrev sW(D:Nat):Deferred:={target:=.collected D,args:= #[]}
abbrev jd:Mk→Deferred
 | .it D=>sW D
 | .call f vs=>{target:=.fn (.func f) #[],args:= #[]++vs.toArray}
theorem tI{N:Nat}:∀{ps:List Nat} {vs:List Value} {r:be} {tmps:Array Value},oM N ps=true→Agree N r {tmps:=tmps,defers:= []}→
  Agree N (Cb ps vs r) {tmps:=(ps.zip vs).foldl (fun t x=>t.setIfInBounds x.1 x.2) tmps,defers:= []}
 | [],vs,r,tmps,_,h=>by cases vs<;>exact h
 |i::ps,[],r,tmps,_,h=>h
 |i::ps,v::vs,r,tmps,a,h=>by
  have a:(nQ i N&&oM N ps)=true:=a;rw[aG]at a;have b:i<N:=by simpa using a.1
  have:=h.put i v b;exact tI (tmps:=tmps.setIfInBounds i v) a.2 this
theorem sB(w:World)(o:Obj):Tame w (w.alloc o):=⟨rfl,rfl,rfl⟩
theorem ij(w:World)(b:Nat)(o:Obj):Tame w (w.putObj b o):=⟨rfl,rfl,rfl⟩
theorem wv(w:World)(b:Nat)(o:Obj):(w.putObj b o).heap=w.heap.setIfInBounds b o:=rfl
theorem zC(ps:Array Nat)(vs:List Value)(t:Array Value):(ps.zip vs.toArray).foldl (fun t (x:Nat×Value)=>t.setIfInBounds x.1 x.2) t=(ps.toList.zip vs).foldl (fun t x=>t.setIfInBounds x.1 x.2) t:=by
 obtain⟨l⟩:=ps;simp
theorem rF(B:P.follows .mixedOrders=true){n N:Nat}{g:Operand}{ps:Array Tmp}{assign body:Code}{aa ab:Ann}{ks:List Kind}{fv:Value}{r:be}{a:Act}{w:World}{Q:Exit→Act→World→Prop}
  {KN:ac→Prop}{KX:Nat→ac→Prop}{KR:ac→Prop}(hps:oM N ps.toList=true)(M:ps.toList.length=ks.length)(hg:bI r g=some fv)(V:Agree N r a)
  (hR:RangeP P fv ks w.heap (fun vR bz x k h'=>xA P N ps.toList ks assign body (.node aa ab) r (w.heap.size+1) vR bz x k h') KN KX KR)
  (hn:∀w',Tame w w'→KN w'.heap→Q .normal {a with defers:=sW w.heap.size::a.defers} w')
  (hx:∀i w',Tame w w'→KX i w'.heap→Q (.exit i) {a with defers:=sW w.heap.size::a.defers} w')
  (hr:∀w',Tame w w'→KR w'.heap→Q .ret {a with defers:=sW w.heap.size::a.defers} w'):(Code.rangeFunc g ps assign body).wpIn (FW none) n P Q a w:=by
 refine wpIn_rangeFunc fun fn _=>?_
 obtain⟨lo,m⟩:∃lo:LoopState→Option Ex→Obj,lo=fun s j=>.loop {state:=s,pending:=vB j,fn,tmps:=a.tmps,params:=ps,assign,body,defers:=w.heap.size}:=⟨_,rfl⟩
 have hj:∀j:Option Ex,(vB j).isNone=j.isNone:=fun j=>by rcases j with _|⟨_|_⟩<;>rfl
 obtain⟨f,first,cap,rfl,he⟩:=hR.run lo (fun s j=>⟨_,by rw[m]⟩) (fun x h' K q z=>by
  refine⟨.inr ⟨_,rfl,⟨fun J U=>?_⟩⟩⟩
  subst U
  rw[m]at q
  have hy:=run_yield (P:=P) (args:=(gK ks x).toArray) q (by simp only[bG,li];rw[←M];rfl)
  refine⟨_,_,_,_,hy,fun c cs=>?_⟩
  have hA:Agree N (Cb ps.toList (gK ks x) r) {tmps:=(ps.zip (gK ks x).toArray).foldl (fun t (x:Nat×Value)=>t.setIfInBounds x.1 x.2) a.tmps,defers:= []}:=by
   rw[zC]
   exact tI hps ⟨V.size,V.look⟩
  have p:∀j:Option Ex,∀W:World,Tame J W→(W.heap[w.heap.size+1]? =some (lo .busy none)∧K j.isNone (W.heap.setIfInBounds (w.heap.size+1) (lo (if j.isNone then .ready else .done) j)))→
    ∃v w',(Instr.endRound (w.heap.size+1) (vB j)).run P W=.ok v w'∧∃b,Ending.returned v=.returned (.bool b)∧Tame J w'∧K b w'.heap:=by
   rintro j W O ⟨h1,S⟩
   rw[m]at h1
   have:=run_endRound (P:=P) (vB j) h1
   refine⟨_,_,this,_,rfl,O.trans (ij ..),?_⟩
   rw[m]at S
   rw[hj]
   exact S
  have:=roundIn_of_wpIn (F:=FW none) (n:=0) (P:=P) (l:=w.heap.size+1) (f:=fn) (assign:=assign) (body:=body) (w:=J)
   (tmps:=(ps.zip (gK ks x).toArray).foldl (fun t (x:Nat×Value)=>t.setIfInBounds x.1 x.2) a.tmps)
   (R:=fun e w'=>∃b,e=.returned (.bool b)∧Tame J w'∧K b w'.heap) trivial (by
    refine kU (ro:=some (w.heap.size+1)) B assign aa _ _ _ _ J _ z hA (fun ch a w h=>h) ?_ (fun i r' a' w' _ _ h=>h.elim) (fun r' a' w' _ _ h=>h.elim)
    rintro r2 a2 w2 X D ⟨u,E⟩
    rw[m]at u
    refine⟨_,run_beginRound u rfl,?_⟩
    have H:∀o,o=lo .busy none→w2.heap.setIfInBounds (w.heap.size+1) o=w2.heap.setIfInBounds (w.heap.size+1) (lo .busy none):=fun o ho=>by rw[ho]
    refine kU (ro:=some (w.heap.size+1)) B body ab (fun _ S=>_) (fun e _ S=>_) _ _ (w2.putObj (w.heap.size+1) _) _ (by
     rw[wv,H _ (by rw[m])];exact E) X (fun ch a w h=>h) ?_ ?_ ?_
    ·rintro r3 a3 G L y I
     exact p none G ((D.tame.trans (ij ..)).trans y.tame) I
    ·rintro i r3 a3 G L y I
     exact p (some (.exit i)) G ((D.tame.trans (ij ..)).trans y.tame) I
    ·rintro r3 a3 G L y I
     exact p (some .ret) G ((D.tame.trans (ij ..)).trans y.tame) I)
  obtain⟨e,w',⟨b,rfl,O,hK⟩,T⟩:=this.2 c cs (fun d h=>by simp[FW]at h)
  exact⟨b,w',O,hK,T.steps⟩)
 have A:=he.run ((w.alloc (.deferred (some []))).alloc (lo .ready none)) rfl;refine⟨w.heap.size+1,[sW w.heap.size],(w.alloc (.deferred (some []))).alloc (lo .ready none),{target:=.fn (.func f) cap,args:=first++ #[.func (.yield (w.heap.size+1)) #[] #[]]},(w.alloc (.deferred (some []))).alloc (lo .ready none),f,
  first++ #[.func (.yield (w.heap.size+1)) #[] #[]]++cap,(w.alloc (.deferred (some []))).alloc (lo .ready none),?_,?_,fun _ _=>trivial,?_,fun h=>by simp[FW]at h,?_⟩
 ·rw[m];exact run_enterLoop_outer fn a.tmps ps assign body
 ·have Z:=fp V hg
  simp[resolve,Z,Deferred.ofValue,Sem.run_pure];rfl
 ·simp[invoke,A.1]
 ·refine tC ?_
  have e:(first.toList++ [Value.func (.yield (w.heap.size+1)) #[] #[]]++cap.toList).toArray=first++ #[.func (.yield (w.heap.size+1)) #[] #[]]++cap:=by apply bv;simp
  rw[←e];refine A.2.mono ?_;rintro e w' ⟨O,t,rfl,s,j,T,q,p⟩;have Y:Tame w w':=((sB w _).trans (sB _ _)).trans O;rw[m]at q;refine⟨_,_,run_endLoop q T,?_⟩;have C:∀o,Tame w (w'.putObj (w.heap.size+1) o):=fun o=>Y.trans (ij ..)
  have H:∀o,o=lo .exhausted j→(w'.putObj (w.heap.size+1) o).heap=w'.heap.setIfInBounds (w.heap.size+1) (lo .exhausted j):=fun o ho=>by rw[ho];rfl
  rcases j with _|⟨i|_⟩
  ·exact hn _ (C _) (by rw[H _ (by rw[m])];exact p)
  ·exact wpIn_exit (hx i _ (C _) (by rw[H _ (by rw[m])];exact p))
  ·exact wpIn_ret (hr _ (C _) (by rw[H _ (by rw[m])];exact p))
theorem tw{n N id d:Nat}{ops:Array Oper}{m o:Oper}{x:Operand}{f:FuncId}{as:List Operand}{vs:List Value}{v:Value}{r:be}{a:Act}{w:World}{Q:Exit→Act→World→Prop}(b:tx ops.toList=some (m,o,x,d,f,as))(hv:bI r x=some v)(k:d<N)(g:hG ((d,v)::r) as=some vs)(i:Agree N r a)
  (s:∀a',Agree N ((d,v)::r) a'→a'.defers=jd (.call f vs)::a.defers→Q .normal a' w):(Code.region id ops false).wpIn (FW none) n P Q a w:=by
 unfold tx at b;split at b
 ·rename_i m' o' hl
  split at b
  ·rename_i x' d' c h1 h2 h3 h4 h5 h6
   split at b
   ·rename_i f' hc
    cases b;have A:ops[0]? =some m:=by rw[←aA,hl];rfl
    have t:ops[1]? =some o:=by rw[←aA,hl];rfl
    have es:ops.size=2:=by rw[←Array.length_toList,hl];rfl
    have j:∀y,Region.wanted m y=true:=fun y=>by simp[Region.wanted,h2]
    have p:∀y,Region.wanted o y=true:=fun y=>by simp[Region.wanted,h6]
    refine wpIn_region ?_;rw[es,show cp 2= [0,1]from rfl]
    simp only[wpOpsIn,A,t,j,p,if_true];refine BigFrame.wpIn_move x h1 ?_;rw[fp i hv,h3];have e:=i.put d v k;refine⟨fun _ _=>trivial,?_⟩
    have u:((Oper.semAt (FW none).round (a.put (some d) v).eval o).run P w)=.ok (.defer (jd (.call f vs))) w:=by
     show((execOp (a.put (some d) v).eval o).run P w)=_
     have z:=gq e g;have q:c.args.map (a.put (some d) v).eval=vs.toArray:=by rw[←z];apply bv;simp
     simp only[execOp,h4,resolve,hc,q];simp[Act.eval,Deferred.ofValue,jd]
    rw[u,Oper.uponIn_defer,h5];exact s _ ⟨e.size,e.look⟩ rfl
   ·cases b
  ·cases b
 ·cases b
theorem u1(H:P.follows .mixedOrders=true){n N:Nat}(c:Code):∀(s:Ann) (Kn:List Mk→be→ac→Prop) (Kx:Ex→List Mk→be→ac→Prop) (ms:List Mk) (r:be) (a:Act) (w:World) (Q:Exit→Act→World→Prop),
  oH P N c s Kn Kx ms r w.heap→Agree N r a→a.defers=ms.map jd→(∀J a w,¬Q (.panic J) a w)→
  (∀p q a' w',Agree N q a'→a'.defers=p.map jd→Tame w w'→Kn p q w'.heap→Q .normal a' w')→
  (∀i p q a' w',Agree N q a'→a'.defers=p.map jd→Tame w w'→Kx (.exit i) p q w'.heap→Q (.exit i) a' w')→
  (∀p q a' w',Agree N q a'→a'.defers=p.map jd→Tame w w'→Kx .ret p q w'.heap→Q .ret a' w')→
  c.wpIn (FW none) n P Q a w:=by
 have plain:∀(c:Code) (s:Ann) (Kn:List Mk→be→ac→Prop) (Kx:Ex→List Mk→be→ac→Prop) (ms:List Mk) (r:be) (a:Act) (w:World) (Q:Exit→Act→World→Prop),
  fF P N c s (Kn ms) (fun e=>Kx e ms) r w.heap→Agree N r a→a.defers=ms.map jd→(∀J a w,¬Q (.panic J) a w)→
  (∀p q a' w',Agree N q a'→a'.defers=p.map jd→Tame w w'→Kn p q w'.heap→Q .normal a' w')→
  (∀i p q a' w',Agree N q a'→a'.defers=p.map jd→Tame w w'→Kx (.exit i) p q w'.heap→Q (.exit i) a' w')→
  (∀p q a' w',Agree N q a'→a'.defers=p.map jd→Tame w w'→Kx .ret p q w'.heap→Q .ret a' w')→
  c.wpIn (FW none) n P Q a w:=by
  intro c s Kn Kx ms r a w Q j u hd C A hx B;exact kU H c s _ _ r a w Q j u C (fun q a' w' E z D=>A ms q a' w' E (z.defers.trans hd) z.tame D) (fun i q a' w' E z D=>hx i ms q a' w' E (z.defers.trans hd) z.tame D)
   (fun q a' w' E z D=>B ms q a' w' E (z.defers.trans hd) z.tame D)
 induction c with
 |skip=>intro s Kn Kx ms r a w Q j;exact plain _ s Kn Kx ms r a w Q j
 |region id ops dr=>
  intro s Kn Kx ms r a w Q j u hd C A hx B;have j:(match tx ops.toList with
   |none=>fF P N (.region id ops dr) s (Kn ms) (fun e=>Kx e ms) r w.heap
   |some (_,_,x,d,f,as)=>bif dr then False else match bI r x with
    |some v=>bif nQ d N then(match hG ((d,v)::r) as with|some vs=>Kn (.call f vs::ms) ((d,v)::r) w.heap|none=>False)else False
    |none=>False):=j
  split at j
  ·exact plain _ s Kn Kx ms r a w Q j u hd C A hx B
  ·rename_i m o x d f as he
   cases dr with
   |true=>exact j.elim
   |false=>
    rw[cond_false]at j;split at j
    · rename_i v hv
      cases hb:nQ d N with
      |false=>rw[hb]at j;exact j.elim
      |true=>
       rw[hb,cond_true]at j;split at j
       ·rename_i vs hvs
        refine tw he hv (by simpa using hb) hvs u fun a' R T=>A (.call f vs::ms) _ a' w R ?_ ⟨rfl,rfl,rfl⟩ j
        rw[T,hd];rfl
       ·exact j.elim
    · exact j.elim
 |seq x y ihx ihy=>
  intro s Kn Kx ms r a w Q j u hd C A hx B;have j:(bif (bif kq x then true else kq y)then oH P N x s.l (fun ms q F=>oH P N y s.r Kn Kx ms q F) Kx ms r w.heap
   else fF P N (.seq x y) s (Kn ms) (fun e=>Kx e ms) r w.heap):=j
  cases hb:(bif kq x then true else kq y)with
  |false=>rw[hb]at j;exact plain _ _ _ _ _ _ _ _ _ j u hd C A hx B
  |true=>
   rw[hb,cond_true]at j;refine wpIn_seq (ihx s.l _ Kx ms r a w _ j u hd (fun J a w=>C J a w) ?_ hx B)
   intro V r1 Y X W U I S;exact ihy s.r Kn Kx V r1 Y X Q S W U C (fun p q a' w' E z D G=>A p q a' w' E z (I.trans D) G) (fun i p q a' w' E z D G=>hx i p q a' w' E z (I.trans D) G)
    (fun p q a' w' E z D G=>B p q a' w' E z (I.trans D) G)
 |cond c x y ihx ihy=>
  intro s Kn Kx ms r a w Q j u hd C A hx B;have j:(bif (bif kq x then true else kq y)then
    (match bI r c with
     |some (.bool t)=>CondP t (oH P N x s.l Kn Kx ms r w.heap) (oH P N y s.r Kn Kx ms r w.heap)
     |_=>False)
   else fF P N (.cond c x y) s (Kn ms) (fun e=>Kx e ms) r w.heap):=j
  cases hb:(bif kq x then true else kq y)with
  |false=>rw[hb]at j;exact plain _ _ _ _ _ _ _ _ _ j u hd C A hx B
  |true=>
   rw[hb,cond_true]at j;split at j
   ·rename_i t K
    exact wpIn_cond_split (fp u K) (fun e=>ihx _ Kn Kx ms r a w Q (j.yes e) u hd C A hx B) (fun e=>ihy _ Kn Kx ms r a w Q (j.no e) u hd C A hx B)
   ·exact j.elim
 |block id b ih=>
  intro s Kn Kx ms r a w Q j u hd C A hx B;have j:(bif kq b then oH P N b s Kn (fun e ms q F=>match e with
    | .exit i=>bif aI i id then Kn ms q F else Kx (.exit i) ms q F
    | .ret=>Kx .ret ms q F) ms r w.heap
   else fF P N (.block id b) s (Kn ms) (fun e=>Kx e ms) r w.heap):=j
  cases hb:kq b with
  |false=>rw[hb]at j;exact plain _ _ _ _ _ _ _ _ _ j u hd C A hx B
  |true=>
   rw[hb,cond_true]at j;refine wpIn_block (ih s Kn _ ms r a w _ j u hd (fun J a w=>C J a w) A (fun i p q a' w' E z D G=>?_) B)
   simp only[Exit.inBlock]at G⊢;cases hi:aI i id with
   |true=>
    rw[hi,cond_true]at G;rw[if_pos (au hi)];exact A p q a' w' E z D G
   |false=>
    rw[hi,cond_false]at G;rw[if_neg (fun e=>by rw[e,kd]at hi;cases hi)]
    exact hx i p q a' w' E z D G
 |loop b ih=>intro s Kn Kx ms r a w Q j;exact plain _ s Kn Kx ms r a w Q j
 |rangeFunc g ps assign body _ _=>
  intro s Kn Kx ms r a w Q j u hd C A hx B;cases s with
  |rf ks aa ab=>
   have j:(bif oM N ps.toList&&aI ps.toList.length ks.length then
    (match bI r g with
     |some fv=>RangeP P fv ks w.heap (fun vR Z x k F=>xA P N ps.toList ks assign body (.node aa ab) r (w.heap.size+1) vR Z x k F)
       (fun F=>Kn (.it w.heap.size::ms) r F) (fun i F=>Kx (.exit i) (.it w.heap.size::ms) r F) (fun F=>Kx .ret (.it w.heap.size::ms) r F)
     |none=>False)else False):=j
   cases hb:(oM N ps.toList&&aI ps.toList.length ks.length)with
   |false=>rw[hb]at j;exact j.elim
   |true=>
    rw[hb,cond_true]at j;rw[aG]at hb;split at j
    · rename_i fv hfv
      have M:Agree N r {a with defers:=sW w.heap.size::a.defers}:=⟨u.size,u.look⟩;have O:({a with defers:=sW w.heap.size::a.defers}:Act).defers=(.it w.heap.size::ms).map jd:=by rw[List.map_cons,←hd]
      exact rF H hb.1 (au hb.2) hfv u j (fun w' K L=>A _ r _ w' M O K L) (fun i w' K L=>hx i _ r _ w' M O K L) (fun w' K L=>B _ r _ w' M O K L)
    · exact j.elim
  |_=>exact j.elim
 |exit id=>intro s Kn Kx ms r a w Q j;exact plain _ s Kn Kx ms r a w Q j
 |scope b _=>intro s Kn Kx ms r a w Q j;exact j.elim
 |label l=>intro s Kn Kx ms r a w Q j;exact plain _ s Kn Kx ms r a w Q j
 |goto l=>intro s Kn Kx ms r a w Q j;exact j.elim
 |ret=>intro s Kn Kx ms r a w Q j;exact plain _ s Kn Kx ms r a w Q j
 |refuse why=>intro s Kn Kx ms r a w Q j;exact j.elim
theorem mr{fn:Func}{ks:List Kind}{K:mo ks→ac→Prop}{N:Nat}{n:Nat}{r:be}{a:Act}{i:World}(c:Agree N r a):∀(ms:List Mk) (w:World),Tame i w→
  wa P ms (fun g=>g3 P r g fn.results.toList fun vs=>rM ks vs fun t=>K t g) w.heap→
  LeavesInM (FW none) n P fn a.tmps (fun e w'=>Tame i w'∧∃t:mo ks,e=.returned (rE ks (gK ks t))∧K t w'.heap) (ms.map jd) .returning w
 | [],w,ht,h=>by
  obtain⟨t,b,o⟩:=wm c h;exact⟨_,b,ht,t,rfl,o⟩
 | .it D::ms,w,ht,h=>by
  refine⟨by simp,.inl ⟨D,_,rfl,run_takeDeferred h.1,?_⟩⟩;exact mr c ms (w.putObj D (.deferred none)) (ht.trans (ij ..)) h.2
 | .call f vs::ms,w,ht,h=>by
  obtain⟨hc,hd⟩:=h w rfl;refine⟨by simp,.inr ⟨(fun e=>by cases e),.func f,#[],f,vs.toArray,rfl,?_,fun _ _=>trivial,CallsDIn.mono (hd (n-1)) fun e u w' ⟨m,d,⟨v,j⟩,k⟩=>?_⟩⟩
  ·have:=hc vs.toArray w
   simpa[invoke]using this
  ·subst m j
   exact mr c ms w' (ht.trans d) k
theorem HE.introM(k:P.follows .mixedOrders=true){f:FuncId}{fn:Func}{c:Code}{q:Ann}{args:List Value}{ks:List Kind}{K:mo ks→ac→Prop}{h:ac}
  (y:P.funcs[f]? =some fn) (s:fn.body=some c) (i:∀(args:Array Value) (w:World),(callFunc f args).run P w=.ok (.enter f args) w) (m:args.length≤fn.ntmps)
  (u:xB P fn c q args ks K h):HE P f args ks K h:=by
 refine⟨fun w v=>⟨i,?_⟩⟩
 subst v;refine(callsIn_wide (n:=0)).1 (callsIn_of_wp_marks (F:=FW none) y s trivial ?_ rfl);refine wpIn_mono (Q:=fun e a w'=>(∀p,e≠ .panic p)∧bodyPostM (FW none) 0 P fn (fun e w'=>Tame w w'∧∃t:mo ks,e=.returned (rE ks (gK ks t))∧K t w'.heap) e a w') ?_ fun e a w h=>h.2
 refine u1 k c q _ _ [] _ _ w _ u (yC m) rfl (fun p a w h=>h.1 p rfl) ?_ (fun _ _ _ _ _ _ _ _ h=>h.elim) ?_
 ·intro j x a' w' d b g o
  refine⟨(fun _ e=>by cases e),?_⟩
  show LeavesInM _ _ _ _ _ _ a'.defers _ _
  rw[b];exact mr d j w' g o
 ·intro j x a' w' d b g o
  refine⟨(fun _ e=>by cases e),?_⟩
  show LeavesInM _ _ _ _ _ _ a'.defers _ _
  rw[b];exact mr d j w' g o
theorem HC.introM(b:P.follows .mixedOrders=true){f:FuncId}{fn:Func}{c:Code}{i:Ann}{args:List Value}{ks:List Kind}{K:mo ks→ac→Prop}{h:ac}
 (j:P.funcs[f]? =some fn) (e:fn.body=some c) (a:∀(args:Array Value) (w:World),(callFunc f args).run P w=.ok (.enter f args) w) (d:args.length≤fn.ntmps)
 (g:xB P fn c i args ks K h):HC P f args ks K h:=(HE.introM b j e a d g).hc
end Go.Lift
namespace Go.Lift
open Go
def AppP(z:Option (List Value))(e b:Nat)(t:TypeId)(a:Option Addr)(sl d c:Nat)(xs:List Value)(h:ac)(K:SliceV→ac→Prop):Prop:=
 (sl+c≤d→nO h a (sl*e) xs∧aY xs=true∧K ⟨a,sl+c,d⟩ (cY h a (sl*e) xs))∧
 (d<sl+c→∃old z',SRow h a (sl*e) old∧z=some z'∧0<b∧Builtin.nextslicecap (sl+c) d*b≤2^48∧
  ∀nc,sl+c≤nc→K ⟨some (bN h),sl+c,nc⟩ (hnew h (old++xs++cd (nc-(sl+c)) z') t))
end Go.Lift
