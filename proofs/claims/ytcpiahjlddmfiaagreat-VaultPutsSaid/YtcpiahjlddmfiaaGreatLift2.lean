/- A part of the proof that the named laws of this program answer true, whatever the input. -/
import Derived.Test.YtcpiahjlddmfiaaGreatLift1
import Derived.BigFrameIn
open Array renaming getD_eq_getD_getElem?→cH,getElem?_toList→aZ,getElem?_setIfInBounds_ne→dU,replicate→mC,getElem?_eq_some_iff→cd,getElem?_eq_getElem→fK,getElem?_eq_none→jF,mapM_eq_mapM_toList→lL,ext'→cD
open Bool renaming eq_false_iff→kA,and_true→tE,or_eq_true→iG,and_eq_true→aY,not_eq_true'→oh,or_eq_false_iff→ll
open List renaming mem_of_getElem?→gb,length_cons→aN,mem_cons→aq,getElem?_cons_zero→cp,getElem?_eq_getElem→al,any_eq_true→bS,getElem?_eq_some_iff→bW,mem_cons_of_mem→aG,mem_cons_self→au,range→eX,filter_cons→cf,mem_singleton→aB,size_toArray→cP
open Nat renaming blt→w6,beq→bD,eq_of_beq_eq_true→aQ,land→iS,lor→cC,testBit_and→jR,succ→fg,zero_add→aA,beq_refl→qS,lt_or_ge→bV,pred→wL,sub_zero→eT
open Option renaming some→bC
namespace Go.Lift
open Go
variable {P:Program} {ro:Option Nat} {n:Nat}
def FW(ro:Option Nat):Fence:={fn:=fun _=>True,depth:=none,alive:=false,round:=ro}
theorem NA(m:Machine):m.fenced P (FW ro):=by
 intro g _;exact⟨fun h=>by simp[FW]at h,.inl trivial,fun _ _=>trivial,fun d h=>by simp[FW]at h⟩
theorem xU{m a:Machine}(h:Steps P m a):StepsIn (Machine.fenced P (FW ro)) P m a:=(StepsIn.of_steps h).mono fun m _=>NA m
theorem DS{k:Nat}{f:FuncId}{args:Array Value}{w:World}{R:Ending→World→Prop}(h:Calls P f args w R):CallsIn (FW ro) k P f args w R:=by
 refine⟨trivial,fun cs _=>?_⟩
 obtain⟨e,d,fr,g,hc,a,b⟩:=h cs;refine⟨e,d,fr,g,?_,a,b⟩;cases e with
 |returned v=>exact xU hc
 |panicked c=>exact xU hc
 |outgrown=>exact hc
theorem po{o:Oper}{a:Act}{w:World}{K:WK}{next:Act→World→Prop}{Q:Exit→Act→World→Prop}(hd:∀c,o.op≠ .defer c)(h:IM P (execOp a.eval o) K w)
  (k:∀v d,Tame w d→K v d.heap→next (a.put o.dst v) d):o.wpIn (FW ro) n P a w next Q:=by
 refine⟨fun _ _=>trivial,?_⟩
 rw[Oper.semAt_eq _ _ _ hd];rcases h with⟨v,d,i,j,g⟩|⟨d,i,j,g⟩|⟨f,args,i,hc⟩|⟨l,fn,tmps,assign,body,i,hc⟩
 ·rw[i];exact k v d j g
 ·rw[i];exact k undef d j g
 ·rw[i]
  refine⟨fun h=>by simp[FW]at h,DS (hc.mono ?_)⟩
  rintro e d ⟨j,v,rfl,g⟩;exact k v d j g
 ·rw[i]
  refine⟨fun h=>by simp[FW]at h,trivial,fun c cs _=>?_⟩
  obtain⟨b,d,j,g,m⟩:=hc c cs;exact⟨.returned (.bool b),d,k _ d j g,xU m⟩
theorem sf{N:Nat}{o:Oper}{v:Value}{r:ce}{K:ce→Prop}{a:Act}{d:uh}{dv:DV}(h:yp N o v r K)(c:Agree N r a)(hd:DecOk d r)(hv:EX dv v):
  ∃r',K r'∧Agree N r' (a.put o.dst v)∧DecOk (qQ d o dv) r':=by
 unfold yp at h;unfold qQ;cases ho:o.dst with
 |none=>rw[ho]at h;exact⟨r,h,c,hd⟩
 |some t=>
  rw[ho]at h;simp only at h;cases hb:w6 t N with
  |false=>rw[hb]at h;exact h.elim
  |true=>
   rw[hb]at h;have b:t<N:=by simpa using hb
   refine⟨_,h,c.put t v b,fun s=>?_⟩
   by_cases e:t=s
   ·subst e
    have:qs ((t,dv)::d) t=dv:=by simp[qs]
    rw[this];exact .inr ⟨v,gS t v r,hv⟩
   ·have g:qs ((t,dv)::d) s=qs d s:=by
     have:bD t s=false:=kA.2 fun f=>e (aQ f)
     show(bif bD t s then dv else qs d s)=_
     rw[this];rfl
    rw[g,fZ v r e];exact hd s
theorem Bz{ek:Option (Kind×Kind)}{o:Op}{r:ce}{K:RK}{h:ac}(a:Aq P ek o r K h):∀c,o≠ .defer c:=by
 intro c e;subst e;exact a
theorem vz{o:Oper}{r:ce}{K:WK}{h:ac}(a:Ey P o r K h):∀c,o.op≠ .defer c:=by
 intro c e;unfold Ey at a;rw[e]at a;exact a
theorem T7{d:uh}{o:Op}(h:u6 P o=false):Hp d o=.x:=by
 cases o<;>first|rfl|(simp[u6]at h)
theorem MY{N:Nat}{ek:Option (Kind×Kind)}{o:Oper}{r:ce}{K:ce→ac→Prop}{a:Act}{w:World}{d:uh}{next:Act→World→Prop}{Q:Exit→Act→World→Prop}
  (i:Tf P N ek o r K w.heap)(j:Agree N r a)(hd:DecOk d r)
  (q:∀v b g,Tame w b→K g b.heap→Agree N g (a.put o.dst v)→DecOk (qQ d o (Hp d o.op)) g→next (a.put o.dst v) b):o.wpIn (FW ro) n P a w next Q:=by
 unfold Tf at i;cases hq:u6 P o.op with
 |true=>
  rw[hq,cond_true]at i;obtain⟨v,S,m,x,k,t⟩:=AE j i d hd;refine po (K:=fun u h'=>u=v∧h'=w.heap) (Bz i) (.inl ⟨v,w,t w x,Tame.refl w,rfl,rfl⟩) ?_
  rintro u b p ⟨rfl,s⟩;obtain⟨g,f,e,c⟩:=sf m j hd k;exact q u b g p (by rw[s];exact f) e c
 |false=>
  rw[hq,cond_false]at i;refine po (vz i) (Au j i) ?_;intro v b p m;obtain⟨g,f,e,c⟩:=sf m j hd (dv:=Hp d o.op) (by rw[T7 hq];trivial);exact q v b g p f e c
theorem FC{t:Array Value}{i:Nat}{b:Bool}(h:t.getD i undef=.bool b):t[i]? =some (.bool b):=by
 rw[cH]at h;cases hc:t[i]? with
 |none=>rw[hc]at h;simp[undef]at h
 |some v=>rw[hc]at h;simp at h;rw[h]
theorem KS{t:Array Value}{i:Nat}(h:t.getD i undef=undef):t[i]? =none∨t[i]? =some undef:=by
 rw[cH]at h;cases hc:t[i]? with
 |none=>exact .inl rfl
 |some v=>rw[hc]at h;simp at h;rw[h];exact .inr rfl
theorem l4{N:Nat}{ops:Array Oper}{d:uh}{o:Oper}{b:Bool}{r:ce}{a:Act}(h:ig ops.toList d o=some b)(m:Agree N r a)(hd:DecOk d r):
  Region.wanted o (yielded ops a.tmps)=b:=by
 unfold ig at h;unfold Region.wanted;cases hg:o.guard with
 |none=>rw[hg]at h;simp only[bC.injEq]at h;exact h
 |some g=>
  obtain⟨j,c⟩:=g;rw[hg]at h;simp only[aZ]at h;simp only;cases hj:ops[j]? with
  |none=>rw[hj]at h;cases h
  |some oj=>
   rw[hj]at h;simp only at h;cases ht:oj.dst with
   |none=>rw[ht]at h;cases h
   |some t=>
    rw[ht]at h;simp only at h;have n:yielded ops a.tmps j=(match a.tmps[t]? with|some (.bool b)=>some b|_=>none):=by
     unfold yielded;simp[hj,ht];rfl
    rw[n];rcases hd t with hx|⟨v,hv,k⟩
    ·rw[hx]at h;cases h
    ·have i:=m.look t v hv
     cases hdl:qs d t with
     |x=>rw[hdl]at h;cases h
     |t=>
      rw[hdl]at h k;simp only[bC.injEq]at h;subst h;have:v=.bool true:=k;subst this;rw[FC i];cases c<;>rfl
     |f=>
      rw[hdl]at h k;simp only[bC.injEq]at h;subst h;have:v=.bool false:=k;subst this;rw[FC i];cases c<;>rfl
     |u=>
      rw[hdl]at h k;simp only[bC.injEq]at h;subst h;have:v=undef:=k;subst this;rcases KS i with e|e<;>rw[e]<;>cases c<;>rfl
structure Fr(W:Nat→Prop)(a0:Act)(w0:World)(a:Act)(w:World):Prop where
 tame:Tame w0 w
 defers:a.defers=a0.defers
 same:∀t,¬W t→a.tmps.getD t undef=a0.tmps.getD t undef
theorem Fr.refl(W:Nat→Prop)(a:Act)(w:World):Fr W a w a w:=⟨Tame.refl w,rfl,fun _ _=>rfl⟩
theorem Fr.put{W:Nat→Prop}{f a:Act}{i w g:World}(h:Fr W f i a w){o:Oper}(k:∀d,o.dst=some d→W d)(v:Value)(j:Tame w g):Fr W f i (a.put o.dst v) g:=by
 refine⟨h.tame.trans j,?_,fun t b=>?_⟩
 ·cases ho:o.dst<;>simp[Act.put,h.defers]
 ·cases ho:o.dst with
  |none=>exact h.same t b
  |some d=>
   have c:d≠t:=fun e=>b (e▸k d ho)
   rw[←h.same t b];simp[Act.put,dU c]
theorem Fr.trans{W:Nat→Prop}{a f e:Act}{c b d:World}(h:Fr W a c f b)(k:Fr W f b e d):Fr W a c e d:=
 ⟨h.tame.trans k.tame,k.defers.trans h.defers,fun t g=>(k.same t g).trans (h.same t g)⟩
theorem Fr.mono{W W':Nat→Prop}{b a:Act}{c w:World}(h:Fr W b c a w)(f:∀t,W t→W' t):Fr W' b c a w:=
 ⟨h.tame,h.defers,fun t d=>h.same t fun e=>d (f t e)⟩
theorem DecOk.known{d:uh}{r:ce}(h:DecOk d r){t:Nat}{dv:DV}{v:Value}(hv:EX dv v):DecOk ((t,dv)::d) ((t,v)::r):=fun s=>by
 by_cases e:t=s
 ·subst e
  have:qs ((t,dv)::d) t=dv:=by simp[qs]
  rw[this];exact .inr ⟨v,gS t v r,hv⟩
 ·have b:qs ((t,dv)::d) s=qs d s:=by
   have:bD t s=false:=kA.2 fun a=>e (aQ a)
   show(bif bD t s then dv else qs d s)=_
   rw[this];rfl
  rw[b,fZ v r e];exact h s
theorem CH{N:Nat}{ek:Option (Kind×Kind)}{ops:Array Oper}{o:Oper}{i:Nat}{d:uh}{r:ce}{a:Act}{w:World}{b:Bool}{K:uh→ce→ac→Prop}{next:Act→World→Prop}{Q:Exit→Act→World→Prop}
  (hi:ops[i]? =some o) (q:ig ops.toList d o=some b) (j:Agree N r a) (hd:DecOk d r)
  (p:match b with
   |true=>Tf P N ek o r (K (qQ d o (Hp d o.op))) w.heap
   |false=>yp N o undef r fun c=>K (qQ d o .u) c w.heap)
  (m:∀v g d' c,Tame w g→K d' c g.heap→Agree N c (a.put o.dst v)→DecOk d' c→next (a.put o.dst v) g):
  wpOpIn (FW ro) n P ops Q i next a w:=by
 unfold wpOpIn;rw[hi];simp only[l4 q j hd];cases b with
 |true=>exact MY p j hd fun v g c t s f e=>m v g _ c t s f e
 |false=>
  obtain⟨c,k,f,e⟩:=sf (dv:=.u) p j hd rfl;exact⟨fun _ _=>trivial,m undef w _ c (Tame.refl w) k f e⟩
theorem MX{N:Nat}{ek:Option (Kind×Kind)}{ops:List Oper}{o:Oper}{os:List Oper}{d:uh}{K:ce→ac→Prop}{r:ce}{h:ac}:C5 P N ek ops (o::os) d K r h=
 (match ig ops d o with
 |some true=>Tf P N ek o r (fun a h'=>C5 P N ek ops os (qQ d o (Hp d o.op)) K a h') h
 |some false=>yp N o undef r fun a=>C5 P N ek ops os (qQ d o .u) K a h
 |none=>match Du ops o with
  |none=>False
  |some t=>match jp r t with
   |some (.bool b)=>CondP b
    (E6 P N ek ops o ((t,.t)::d) ((t,.bool true)::r) h fun c a h'=>C5 P N ek ops os c K a h')
    (E6 P N ek ops o ((t,.f)::d) ((t,.bool false)::r) h fun c a h'=>C5 P N ek ops os c K a h')
   |_=>False):=rfl
theorem E1{N:Nat}{ek:Option (Kind×Kind)}{ops:Array Oper}{o:Oper}{i:Nat}{d:uh}{r:ce}{a:Act}{w:World}{K:uh→ce→ac→Prop}{next:Act→World→Prop}{Q:Exit→Act→World→Prop}
  (hi:ops[i]? =some o) (e:Agree N r a) (hd:DecOk d r) (c:E6 P N ek ops.toList o d r w.heap K)
  (f:∀v w' d' r',Tame w w'→K d' r' w'.heap→Agree N r' (a.put o.dst v)→DecOk d' r'→next (a.put o.dst v) w'):
  wpOpIn (FW ro) n P ops Q i next a w:=by
 unfold E6 at c;cases hw:ig ops.toList d o with
 |none=>rw[hw]at c;exact c.elim
 |some b=>rw[hw]at c;exact CH (ek:=ek) hi hw e hd (by cases b<;>exact c) f
theorem C4{N:Nat}{ek:Option (Kind×Kind)}{ops:Array Oper}{W:Nat→Prop}(y:∀o∈ops.toList,∀d,o.dst=some d→W d){q:Act}{u:World}{K:ce→ac→Prop}{Q:Exit→Act→World→Prop}
  (s:∀r a w,Agree N r a→Fr W q u a w→K r w.heap→Q .normal a w):
  ∀(l:List Oper) (i:Nat),ops.toList.drop i=l→∀(d:uh) (r:ce) (a:Act) (w:World),C5 P N ek ops.toList l d K r w.heap→Agree N r a→DecOk d r→Fr W q u a w→
   wpOpsIn (FW ro) n P ops Q (List.range' i l.length) a w
 | [],i,_,d,r,a,w,hs,ha,hd,hf=>s r a w ha hf hs
 |o::os,i,hdr,d,r,a,w,hs,ha,hd,hf=>by
  have hi:ops[i]? =some o:=by
   rw[←aZ];have:(ops.toList.drop i)[0]? =some o:=by rw[hdr];rfl
   simpa using this
  have j:o∈ops.toList:=gb (by rw[aZ];exact hi);have g:ops.toList.drop (i+1)=os:=by rw[←List.tail_drop,hdr];rfl
  rw[aN,List.range'_succ,wpOpsIn_cons];rw[MX]at hs;have p:∀v f e c,Tame w f→C5 P N ek ops.toList os e K c f.heap→Agree N c (a.put o.dst v)→DecOk e c→wpOpsIn (FW ro) n P ops Q (List.range' (i+1) os.length) (a.put o.dst v) f:=
   fun v f e c x z m k=>C4 y s os (i+1) g e c _ f z m k (hf.put (y o j) v x)
  cases hw:ig ops.toList d o with
  |some b=>
   rw[hw]at hs;exact CH (ek:=ek) (K:=fun e c h'=>C5 P N ek ops.toList os e K c h') hi hw ha hd (by cases b<;>exact hs) p
  |none=>
   rw[hw]at hs;simp only at hs;split at hs
   ·exact hs.elim
   ·rename_i t x
    split at hs
    ·rename_i b hb
     cases b with
     |true=>exact E1 hi (ha.known hb) (hd.known (dv:=.t) rfl) (hs.yes rfl) p
     |false=>exact E1 hi (ha.known hb) (hd.known (dv:=.f) rfl) (hs.no rfl) p
    ·exact hs.elim
end Go.Lift
namespace Go.Lift
open Go
theorem yT(m i:Nat):tb m i=m.testBit i:=by
 have h:iS (Nat.shiftRight m i) 1=(m>>>i)&&&1:=rfl;unfold tb;rw[h,Nat.testBit_eq_decide_div_mod_eq,Nat.and_one_is_mod,Nat.shiftRight_eq_div_pow];cases hm:decide (m/2^i%2=1)with
 |true=>rw[of_decide_eq_true hm];rfl
 |false=>
  have a:=of_decide_eq_false hm;have:m/2^i%2=0:=by omega
  rw[this];rfl
theorem mQ(a b i:Nat):(cC a b).testBit i=(a.testBit i||b.testBit i):=Nat.testBit_or a b i
theorem yu(i j:Nat):(fX i).testBit j=decide (i=j):=Nat.testBit_two_pow
theorem A6{a b:Nat}(h:bD (iS a b) 0=true)(t:Nat)(c:a.testBit t=true)(hb:b.testBit t=true):False:=by
 have d:=aQ h;have:(iS a b).testBit t=(a.testBit t&&b.testBit t):=jR a b t;rw[d,c,hb]at this;simp at this
theorem RM{a b:Nat}(h:bD (iS a b) a=true)(t:Nat)(c:a.testBit t=true):b.testBit t=true:=by
 have d:=aQ h;have:(iS a b).testBit t=(a.testBit t&&b.testBit t):=jR a b t;rw[d,c]at this;simpa using this.symm
theorem xF(i:Nat):∀l:List Edge,(lA l).testBit i=l.any fun e=>bD e.on i&&Region.binds .any e
 | []=>Nat.zero_testBit i
 |e::l=>by
  have a:=xF i l;have hc:lA (e::l)=bif Region.binds .any e then cC (fX e.on) (lA l)else lA l:=rfl;rw[hc,List.any_cons,←a];cases hb:Region.binds .any e with
  |true=>
   rw[cond_true,mQ,yu,tE];congr 1
   cases hd:bD e.on i with
   |true=>simpa using aQ hd
   |false=>rw[decide_eq_false_iff_not];intro b;rw[b]at hd;simp at hd
  |false=>simp
theorem zB(o:Oper)(i:Nat):(lA o.after.toList).testBit i=ii o i:=xF i o.after.toList
theorem yS(t:Nat):∀l:List Operand,(kH l).testBit t=true↔Operand.tmp t∈l
 | []=>by simp[show kH []=0 from rfl]
 |o::l=>by
  have a:=yS t l;cases o with
  |tmp u=>
   have hc:kH (.tmp u::l)=cC (fX u) (kH l):=rfl;rw[hc,mQ,yu,iG,a,aq];simp[eq_comm]
  |const v=>
   have hc:kH (.const v::l)=kH l:=rfl;rw[hc,a,aq];simp
  |global v=>
   have hc:kH (.global v::l)=kH l:=rfl;rw[hc,a,aq];simp
  |func v=>
   have hc:kH (.func v::l)=kH l:=rfl;rw[hc,a,aq];simp
theorem wt(o:Oper)(t:Nat):(my o).testBit t=true↔o.dst=some t:=by
 unfold my;cases o.dst with
 |none=>simp
 |some d=>simp[yu]
theorem EJ(ops:Array Oper)(o:Oper)(t:Nat):(m6 ops.toList o).testBit t=true↔t∈o.looksAt ops:=by
 unfold m6 Oper.looksAt;rw[mQ,iG,yS,List.mem_append,List.mem_filterMap];refine or_congr ⟨fun h=>⟨_,h,rfl⟩,?_⟩ ?_
 ·rintro⟨x,hx,a⟩
  cases x<;>simp at a
  subst a;exact hx
 ·cases hg:o.guard with
  |none=>simp
  |some g=>
   obtain⟨j,b⟩:=g;simp only[aZ];cases hj:ops[j]? with
   |none=>simp
   |some oj=>simp[wt]
variable {P:Program} {ro:Option Nat} {n:Nat} {ops:Array Oper} {Q:Exit→Act→World→Prop}
structure MsOk(ops:Array Oper)(ms:List DM):Prop where
 am:∀(i:Nat) (o:Oper) (m:DM),ops[i]? =some o→ms[i]? =some m→∀j,m.am.testBit j=ii o j
 lk:∀(i:Nat) (o:Oper) (m:DM),ops[i]? =some o→ms[i]? =some m→∀t,m.lk.testBit t=true↔t∈o.looksAt ops
 ds:∀(i:Nat) (o:Oper) (m:DM),ops[i]? =some o→ms[i]? =some m→∀t,m.ds.testBit t=true↔o.dst=some t
 len:ms.length=ops.size
 free:∀(i j:Nat) (m k:DM),ms[i]? =some m→ms[j]? =some k→m.fr.testBit j=true→j=i∨k.am.testBit i=true∨A7 m k=true
 nosel:∀(i:Nat) (o:Oper),ops[i]? =some o→(∀cs b,o.op≠ .select cs b)∧(∀c,o.op≠ .defer c)
theorem ze(ops:List Oper):∀(l:List Oper) (ms:List DM),vM ops l ms=true→ms.length=l.length∧∀(i:Nat) (o:Oper) (m:DM),l[i]? =some o→ms[i]? =some m→
  m.am=lA o.after.toList∧m.lk=m6 ops o∧m.ds=my o
 | [],[],_=>⟨rfl,fun i o m h=>by simp at h⟩
 | [],_::_,h=>by cases h
 |o::l,[],h=>by cases h
 |o::l,m::ms,h=>by
  have hc:vM ops (o::l) (m::ms)=(bD (lA o.after.toList) m.am&&bD (m6 ops o) m.lk&&bD (my o) m.ds&&vM ops l ms):=rfl;rw[hc]at h;simp only[aY]at h;obtain⟨⟨⟨g,e⟩,j⟩,f⟩:=h;obtain⟨b,c⟩:=ze ops l ms f;refine⟨by simp[b],fun i d k a hm=>?_⟩
  cases i with
  |zero=>
   simp only[cp,bC.injEq]at a hm;subst a;subst hm;exact⟨(aQ g).symm,(aQ e).symm,(aQ j).symm⟩
  |succ i=>exact c i d k (by simpa using a) (by simpa using hm)
theorem FE(i:Nat)(m:DM):∀(l:List DM) (j0:Nat),FF i m l j0=true→∀(j:Nat) (k:DM),l[j]? =some k→m.fr.testBit (j0+j)=true→j0+j=i∨k.am.testBit i=true∨A7 m k=true
 | [],j0,_,j,k,hk,_=>by simp at hk
 |x::l,j0,h,j,k,hk,hb=>by
  have hc:FF i m (x::l) j0=((!(tb m.fr j0)||bD j0 i||tb x.am i||A7 m x)&&FF i m l (fg j0)):=rfl
  rw[hc]at h;simp only[aY,iG,oh,yT]at h;cases j with
  |zero=>
   simp only[cp,bC.injEq]at hk;subst hk;simp only[Nat.add_zero]at hb⊢;rcases h.1 with((a|a)|a)|a
   ·rw[a]at hb;cases hb
   ·exact .inl (aQ a)
   ·exact .inr (.inl a)
   ·exact .inr (.inr a)
  |succ j=>
   have:=FE i m l (j0+1) h.2 j k (by simpa using hk) (by rw[show j0+1+j=j0+(j+1) by omega];exact hb)
   rw[show j0+1+j=j0+(j+1) by omega]at this
   exact this
theorem BH(a:List DM):∀(l:List DM) (i0:Nat),zk a l i0=true→∀(i:Nat) (m:DM),l[i]? =some m→FF (i0+i) m a 0=true
 | [],i0,_,i,m,hm=>by simp at hm
 |x::l,i0,h,i,m,hm=>by
  have hc:zk a (x::l) i0=(FF i0 x a 0&&zk a l (fg i0)):=rfl;rw[hc,aY]at h;cases i with
  |zero=>simp only[cp,bC.injEq]at hm;subst hm;exact h.1
  |succ i=>
   have:=BH a l (i0+1) h.2 i m (by simpa using hm);rw[show i0+1+i=i0+(i+1) by omega]at this
   exact this
theorem Fm:∀(l:List Oper),Ib l=true→∀o∈l,(∀cs b,o.op≠ .select cs b)∧(∀c,o.op≠ .defer c)
 | [],_,o,a=>by cases a
 |x::l,h,o,a=>by
  simp only[Ib,aY]at h;rcases aq.1 a with rfl|a
  ·refine⟨fun cs b e=>?_,fun c e=>?_⟩
   ·rw[e]at h;cases h.1
   ·rw[e]at h;cases h.1
  ·exact Fm l h.2 o a
theorem Ko{ms:List DM}(h:Cy ops.toList ms=true):MsOk ops ms:=by
 have hc:Cy ops.toList ms=(vM ops.toList ops.toList ms&&zk ms ms 0&&Ib ops.toList):=rfl;rw[hc]at h;simp only[aY]at h;obtain⟨⟨f,e⟩,g⟩:=h;obtain⟨d,b⟩:=ze ops.toList ops.toList ms f;refine⟨fun i o m a hm j=>?_,fun i o m a hm t=>?_,fun i o m a hm t=>?_,by simpa using d,fun i j m k hm c hb=>?_,fun i o a=>?_⟩
 ·rw[(b i o m (by simpa using a) hm).1,zB]
 ·rw[(b i o m (by simpa using a) hm).2.1,EJ]
 ·rw[(b i o m (by simpa using a) hm).2.2,wt]
 ·have:=BH ms ms 0 e i m hm
  rw[aA]at this;have:=FE i m ms 0 this j k c (by rwa [aA]);rwa [aA]at this
 ·exact Fm _ g o (gb (by rw[aZ];exact a))
theorem P2{ms:List DM}(hm:MsOk ops ms){i j:Nat}{c b:Oper}{g f:DM}(hi:ops[i]? =some c) (m:ops[j]? =some b) (a:ms[i]? =some g) (e:ms[j]? =some f) (h:A7 g f=true):
  (∀d,c.dst=some d→d∉b.looksAt ops)∧(∀d,c.dst=some d→b.dst≠some d)∧(∀d,b.dst=some d→d∉c.looksAt ops):=by
 unfold A7 at h;rw[aY]at h;refine⟨fun d hd k=>?_,fun d hd n=>?_,fun d hd k=>?_⟩
 ·exact A6 h.1 d ((hm.ds i c g hi a d).2 hd) (by rw[mQ,(hm.lk j b f m e d).2 k,Bool.true_or])
 ·exact A6 h.1 d ((hm.ds i c g hi a d).2 hd) (by rw[mQ,(hm.ds j b f m e d).2 n,Bool.or_true])
 ·exact A6 h.2 d ((hm.ds j b f m e d).2 hd) ((hm.lk i c g hi a d).2 k)
structure LsRel(ops:Array Oper)(ls:Nat)(listed:Array Bool):Prop where
 size:listed.size=ops.size
 bit:∀j,listed.getD j false=ls.testBit j
theorem LsRel.start:LsRel ops 0 (mC ops.size false):=⟨by simp,fun j=>by
 rw[Nat.zero_testBit,cH]
 by_cases h:j<ops.size<;>simp[h]⟩
theorem LsRel.put{ls:Nat}{a:Array Bool}(h:LsRel ops ls a){i:Nat}(hi:i<ops.size):LsRel ops (cC ls (fX i)) (a.setIfInBounds i true):=by
 refine⟨by simp[h.size],fun j=>?_⟩
 rw[mQ,yu,←h.bit];by_cases e:i=j
 ·subst e;simp[h.size,hi]
 ·simp[e,dU e]
theorem LsRel.unlisted{ls:Nat}{a:Array Bool}(h:LsRel ops ls a){i:Nat}(hi:i<ops.size):a.getD i true=ls.testBit i:=by
 rw[←h.bit];have:i<a.size:=by rw[h.size];exact hi
 simp[this]
theorem Fb{ms:List DM}(hm:MsOk ops ms){ls:Nat}{a:Array Bool}(h:LsRel ops ls a){j:Nat}:j∈Region.ready .any ops a↔∃m,ms[j]? =some m∧ls.testBit j=false∧Hn m ls=true:=by
 rw[mem_ready];constructor
 ·rintro⟨k,o,n,c⟩
  have b:j<ops.size:=(cd.1 n).1;have g:j<ms.length:=by rw[hm.len];exact b
  refine⟨ms[j],al g,by rw[←h.unlisted b];exact k,?_⟩
  unfold Hn;have:iS (ms[j]).am ls=(ms[j]).am:=by
   apply Nat.eq_of_testBit_eq;intro t;have d:(iS (ms[j]).am ls).testBit t=((ms[j]).am.testBit t&&ls.testBit t):=jR _ _ t;rw[d];cases ht:(ms[j]).am.testBit t with
   |false=>rfl
   |true=>
    rw[hm.am j o _ n (al g)]at ht;unfold ii at ht;obtain⟨e,i,hb⟩:=bS.1 ht;simp only[aY]at hb;have:=c e (by simpa using i) hb.2;rw[aQ hb.1,h.bit]at this;rw[this];rfl
  rw[this];exact qS _
 ·rintro⟨m,f,k,p⟩
  have b:j<ops.size:=by rw[←hm.len];exact(bW.1 f).1
  refine⟨by rw[h.unlisted b];exact k,ops[j],fK b,fun e i hb=>?_⟩
  rw[h.bit];refine RM p e.on ?_;rw[hm.am j _ m (fK b) f];unfold ii;exact bS.2 ⟨e,by simpa using i,by simp[hb]⟩
theorem qY(ls:Nat):∀(l:List DM) (j0 j:Nat),j∈kM ls l j0↔∃k m,l[k]? =some m∧j=j0+k∧ls.testBit j=false∧Hn m ls=true
 | [],j0,j=>by simp[show kM ls [] j0= []from rfl]
 |m::l,j0,j=>by
  have hc:kM ls (m::l) j0=bif !(tb ls j0)&&Hn m ls then j0::kM ls l (fg j0)else kM ls l (fg j0):=rfl;have e:=qY ls l (j0+1) j;rw[hc,yT];have step:(∃k c,(m::l)[k]? =some c∧j=j0+k∧ls.testBit j=false∧Hn c ls=true)↔(j=j0∧ls.testBit j0=false∧Hn m ls=true)∨j∈kM ls l (j0+1):=by
   rw[e];constructor
   ·rintro⟨k,c,d,rfl,b,a⟩
    cases k with
    |zero=>simp only[cp,bC.injEq]at d;subst d;exact .inl ⟨rfl,b,a⟩
    |succ k=>exact .inr ⟨k,c,by simpa using d,by omega,b,a⟩
   ·rintro(⟨rfl,b,a⟩|⟨k,c,d,rfl,b,a⟩)
    ·exact⟨0,m,rfl,rfl,b,a⟩
    ·exact⟨k+1,c,by simpa using d,by omega,b,a⟩
  rw[step];cases hb:(!(ls.testBit j0)&&Hn m ls)with
  |true=>
   simp only[aY,oh]at hb;rw[cond_true,aq];simp[hb.1,hb.2]
  |false=>
   rw[cond_false];constructor
   ·exact .inr
   ·rintro(⟨_,b,a⟩|h)
    ·rw[b,a]at hb;cases hb
    ·exact h
theorem lq{ms:List DM}(hm:MsOk ops ms){ls:Nat}{a:Array Bool}(h:LsRel ops ls a){j:Nat}:j∈Region.ready .any ops a↔j∈kM ls ms 0:=by
 rw[Fb hm h,qY];constructor
 ·rintro⟨m,c,b,d⟩;exact⟨j,m,c,by omega,b,d⟩
 ·rintro⟨k,m,c,rfl,b,d⟩;exact⟨m,by simpa using c,b,d⟩
theorem wS:∀{a b:List Nat},uv a b=true→a=b
 | [],[],_=>rfl
 | [],_::_,h=>by cases h
 |_::_,[],h=>by cases h
 |a::as,b::bs,h=>by
  simp only[uv,aY]at h;rw[aQ h.1,wS h.2]
end Go.Lift
namespace Go.Lift
open Go
variable {P:Program} {ro:Option Nat} {n:Nat} {ops:Array Oper} {Q:Exit→Act→World→Prop}
theorem yR{m:Nat}{p:Nat→Bool}(hm:∀j,m.testBit j=true→p j=true):∀(l:List DM) (j0:Nat),(∀j x,l[j]? =some x→p (j0+j)=true→∀k,x.am.testBit k=true→p k=true)→∀k,(N7 m l j0).testBit k=true→p k=true
 | [],_,_,k,h=>hm k h
 |x::l,j0,hl,k,h=>by
  have hc:N7 m (x::l) j0=bif tb m j0 then cC x.am (N7 m l (fg j0))else N7 m l (fg j0):=rfl;have a:=yR hm l (j0+1) (fun j y c b=>hl (j+1) y (by simpa using c) (by rw[show j0+(j+1)=j0+1+j by omega];exact b)) k
  rw[hc,yT]at h;cases hb:m.testBit j0 with
  |true=>
   rw[hb,cond_true,mQ,iG]at h;rcases h with h|h
   ·exact hl 0 x rfl (hm _ hb) k h
   ·exact a h
  |false=>
   rw[hb,cond_false]at h;exact a h
theorem yQ{m k:Nat}(h:m.testBit k=true):∀(l:List DM) (j0:Nat),(N7 m l j0).testBit k=true
 | [],_=>h
 |x::l,j0=>by
  have hc:N7 m (x::l) j0=bif tb m j0 then cC x.am (N7 m l (fg j0))else N7 m l (fg j0):=rfl;have a:=yQ h l (j0+1);rw[hc];cases tb m j0 with
  |true=>rw[cond_true,mQ,iG];exact .inr a
  |false=>exact a
def Shut(ms:List DM)(a:Array Bool):Prop:=∀j x,ms[j]? =some x→a.getD j false=true→∀k,x.am.testBit k=true→a.getD k false=true
theorem NG{ms:List DM}{a:Array Bool}(d:Shut ms a){m:Nat}(hm:∀j,m.testBit j=true→a.getD j false=true){k:Nat}(h:(zs ms m).testBit k=true):a.getD k false=true:=by
 have b:∀j x,ms[j]? =some x→(fun k=>a.getD k false) (0+j)=true→∀k,x.am.testBit k=true→(fun k=>a.getD k false) k=true:=fun j x hx c=>d j x hx (by rw[aA]at c;exact c)
 unfold zs at h;exact yR (p:=fun k=>a.getD k false) (yR (yR (yR hm ms 0 b) ms 0 b) ms 0 b) ms 0 b k h
theorem FO{ms:List DM}{m k:Nat}(h:m.testBit k=true):(zs ms m).testBit k=true:=by
 unfold zs;exact yQ (yQ (yQ (yQ h ms 0) ms 0) ms 0) ms 0
noncomputable abbrev rel(ms:List DM)(i:Nat)(L:qh):qh:=yZ (zs ms (G3 ms i)) L
theorem ja{m:Nat}{x:Nat×(ac→Prop)}:∀{L:qh},x∈yZ m L↔x∈L∧tb m x.1=false
 | []=>by simp[yZ]
 |(k,S)::L=>by
  have b:=ja (m:=m) (x:=x) (L:=L);simp only[yZ];cases hk:tb m k with
  |true=>
   rw[cond_true,b,aq];constructor
   ·exact fun h=>⟨.inr h.1,h.2⟩
   ·rintro⟨h|h,a⟩
    ·subst h;rw[hk]at a;cases a
    ·exact⟨h,a⟩
  |false=>
   rw[cond_false,aq,b,aq];constructor
   ·rintro(h|h)
    ·subst h;exact⟨.inl rfl,hk⟩
    ·exact⟨.inr h.1,h.2⟩
   ·rintro⟨h|h,a⟩
    ·exact .inl h
    ·exact .inr ⟨h,a⟩
def Oi(ms:List DM)(ro:Option Nat)(n:Nat)(P:Program)(ops:Array Oper)(Q:Exit→Act→World→Prop):Nat→qh→Array Bool→Act→World→Prop
 |0,_,listed,a,w=>Region.ready .any ops listed= []∧Q .normal a w
 |f+1,L,listed,a,w=>(Region.ready .any ops listed= []→Q .normal a w)∧
  ∀i∈Region.ready .any ops listed,∀o,ops[i]? =some o→
   wpOpIn (FW ro) n P ops Q i (fun a' b=>(∀x∈rel ms i L,x.2 b.heap)∧Oi ms ro n P ops Q f (rel ms i L) (listed.setIfInBounds i true) a' b) a w
theorem vJ{o:Oper}{x:Nat×(ac→Prop)}:∀{L:qh},x∈nr o L↔x∈L∧ii o x.1=false
 | []=>by simp[nr]
 |(k,S)::L=>by
  have b:=vJ (o:=o) (x:=x) (L:=L);simp only[nr];cases hk:ii o k with
  |true=>
   rw[cond_true,b,aq];constructor
   ·exact fun h=>⟨.inr h.1,h.2⟩
   ·rintro⟨h|h,a⟩
    ·subst h;rw[hk]at a;cases a
    ·exact⟨h,a⟩
  |false=>
   rw[cond_false,aq,b,aq];constructor
   ·rintro(h|h)
    ·subst h;exact⟨.inl rfl,hk⟩
    ·exact⟨.inr h.1,h.2⟩
   ·rintro⟨h|h,a⟩
    ·exact .inl h
    ·exact .inr ⟨h,a⟩
theorem M4{a:Array Bool}{i:Nat}(h:i∈Region.ready .any ops a):∃o,ops[i]? =some o:=by
 obtain⟨_,o,b,_⟩:=mem_ready.1 h;exact⟨o,b⟩
theorem LL{ms:List DM}:∀(f:Nat) (L:qh) (listed:Array Bool) (a:Act) (w:World),Oi ms ro n P ops Q f L listed a w→wpAnyIn (FW ro) n P .any ops Q f listed a w
 |0,_,_,_,_,h=>h
 |f+1,L,listed,a,w,h=>⟨h.1,fun i hi=>by
  obtain⟨o,c⟩:=M4 hi
  exact wpOpIn_mono (fun a' b h'=>LL f _ _ a' b h'.2) (h.2 i hi o c)⟩
theorem tF{ms:List DM}:∀(f:Nat) (L L':qh) (listed:Array Bool) (a:Act) (w:World),(∀x∈L',x∈L∨∀h,x.2 h)→Oi ms ro n P ops Q f L listed a w→Oi ms ro n P ops Q f L' listed a w
 |0,_,_,_,_,_,_,h=>h
 |f+1,L,L',listed,a,w,hs,h=>⟨h.1,fun i hi o d=>by
  have b:∀x∈rel ms i L',x∈rel ms i L∨∀h,x.2 h:=fun x hx=>(hs x (ja.1 hx).1).imp (fun h=>ja.2 ⟨h,(ja.1 hx).2⟩) id
  exact wpOpIn_mono (fun a' c h'=>⟨fun x hx=>(b x hx).elim (h'.1 x) fun h=>h _,tF f _ _ _ a' c b h'.2⟩) (h.2 i hi o d)⟩
def YG(P:Program)(ops:Array Oper)(S:ac→Prop)(o:Oper)(v:Value)(a:Act):Prop:=
 (Region.wanted o (yielded ops a.tmps)=true∧∀w:World,S w.heap→(execOp a.eval o).run P w=.ok (.value v) w)∨
 (Region.wanted o (yielded ops a.tmps)=false∧v=undef)
theorem YG.wpOp{S:ac→Prop}{i:Nat}{o:Oper}{v:Value}{a:Act}(hi:ops[i]? =some o) (hd:∀c,o.op≠ .defer c) (e:YG P ops S o v a) {K:Act→World→Prop} {w:World} (d:S w.heap)
  (h:K (a.put o.dst v) w):wpOpIn (FW ro) n P ops Q i K a w:=by
 unfold wpOpIn;simp only[hi];rcases e with⟨b,hv⟩|⟨b,rfl⟩
 ·simp only[b,if_true]
  refine⟨fun _ _=>trivial,?_⟩
  rw[Oper.semAt_eq _ _ _ hd,hv w d];exact h
 ·simp only[b,Bool.false_eq_true,if_false];exact⟨fun _ _=>trivial,h⟩
theorem YG.of_same{S:ac→Prop}{o:Oper}{v:Value}{a a':Act}(d:YG P ops S o v a)(c:execOp a'.eval o=execOp a.eval o)
  (b:Region.wanted o (yielded ops a'.tmps)=Region.wanted o (yielded ops a.tmps)):YG P ops S o v a':=by
 unfold YG at*;rw[c,b];exact d
theorem Jx{S:ac→Prop}{j:Nat}{g i:Oper}{v:Value}(E:ops[j]? =some i)
  (A:(∀d,g.dst=some d→d∉i.looksAt ops)∧(∀d,g.dst=some d→i.dst≠some d)∧(∀d,i.dst=some d→d∉g.looksAt ops))
  (s:∀cs b,g.op≠ .select cs b) (z:∀cs b,i.op≠ .select cs b) (t:∀c,i.op≠ .defer c)
  (D:∀e a w,(∀c,e=.panic c→False)∨¬Q e a w) {K:Act→World→Prop} {a:Act} {w:World}
  (m:YG P ops S g v a) (h:wpOpIn (FW ro) n P ops Q j K (a.put g.dst v) w):
  wpOpIn (FW ro) n P ops Q j (fun a' B=>YG P ops S g v a'∧K (a'.put g.dst v) B) a w:=by
 obtain⟨C,p,y⟩:=A;have o:∀c a w,¬Q (.panic c) a w:=fun c a w F=>(D (.panic c) a w).elim (fun h=>h c rfl) fun h=>h F
 have keep:∀(a:Act),YG P ops S g v a→∀u,YG P ops S g v (a.put i.dst u):=fun a m u=>
  m.of_same (execOp_put g s a i.dst u y) (wanted_put g a i.dst u y)
 unfold wpOpIn at*;simp only[E]at*;rw[wanted_put i a g.dst v C]at h;split
 ·rename_i hw
  simp only[hw,if_true]at h;refine⟨fun _ _=>trivial,?_⟩
  have h:=h.2;rw[Oper.semAt_eq _ _ _ t,execOp_put i z a g.dst v C]at h;rw[Oper.semAt_eq _ _ _ t];generalize (execOp a.eval i).run P w=r at*;cases r with
  |ok x B=>
   cases x<;>simp only[Oper.uponIn]at h⊢
   case value u=>exact⟨keep a m u,by rw[←Act.put_comm a v u p];exact h⟩
   case skip=>exact⟨keep a m _,by rw[←Act.put_comm a v undef p];exact h⟩
   case defer d=>
    refine⟨(m.of_same (a':={a with defers:=d::a.defers}) rfl rfl).of_same (execOp_put g s _ i.dst undef y) (wanted_put g _ i.dst undef y),?_⟩;rw[←Act.put_comm _ v undef p,←Act.put_defers];exact h
   case enter f args=>
    refine⟨h.1,CallsIn.mono h.2 fun e q k=>?_⟩
    cases e with
    |returned u=>exact⟨keep a m u,by rw[←Act.put_comm a v u p];exact k⟩
    |panicked c=>exact(o _ _ _ k).elim
    |outgrown=>exact k
   case row row args=>exact⟨h.1,RowsIn.mono h.2 fun u q k=>⟨keep a m u,by rw[←Act.put_comm a v u p];exact k⟩⟩
   case round l f tmps assign body=>
    refine⟨h.1,RoundIn.mono h.2 fun e q k=>?_⟩
    cases e with
    |returned u=>exact⟨keep a m u,by rw[←Act.put_comm a v u p];exact k⟩
    |panicked c=>exact(o _ _ _ k).elim
    |outgrown=>exact k
  |halt x B=>
   cases x<;>simp only[Oper.uponIn]at h⊢
   case panic u=>exact(o _ _ _ h).elim
 ·rename_i hw
  simp only[hw]at h;exact⟨fun _ _=>trivial,keep a m _,by rw[←Act.put_comm a v undef p];exact h.2⟩
theorem G2{ms:List DM}(hm:MsOk ops ms){i:Nat}{o:Oper}(a:ops[i]? =some o) (k:Nat):(G3 ms i).testBit k=ii o k:=by
 have hi:i<ms.length:=by rw[hm.len];exact(cd.1 a).1
 unfold G3;rw[al hi];exact hm.am i o _ a (al hi) k
theorem HS{ms:List DM}(hm:MsOk ops ms){a:Array Bool}{j:Nat}(f:j∈Region.ready .any ops a)(k:Nat)(c:(G3 ms j).testBit k=true):a.getD k false=true:=by
 obtain⟨_,o,g,b⟩:=mem_ready.1 f;rw[G2 hm g]at c;unfold ii at c;obtain⟨e,d,hb⟩:=bS.1 c;simp only[aY]at hb;have:=b e (by simpa using d) hb.2;rw[aQ hb.1]at this;exact this
theorem Iq{a:Array Bool}{j k:Nat}(h:a.getD k false=true):(a.setIfInBounds j true).getD k false=true:=by
 by_cases e:j=k
 ·subst e
  rw[cH]at h⊢;rcases bV j a.size with h'|h'
  ·simp[h']
  ·simp[jF h']at h
 ·rw[cH,dU e,←cH]
  exact h
theorem Shut.put{ms:List DM}(hm:MsOk ops ms){a:Array Bool}(f:Shut ms a){j:Nat}(d:j∈Region.ready .any ops a):Shut ms (a.setIfInBounds j true):=by
 intro i x hx c k b;by_cases e:j=i
 ·subst e
  refine Iq (HS hm d k ?_);unfold G3;rw[hx];exact b
 ·rw[cH,dU e,←cH]at c
  exact Iq (f i x hx c k b)
theorem CI{ms:List DM}(hm:MsOk ops ms){S:ac→Prop}{i:Nat}{y:Oper}{v:Value}(hi:ops[i]? =some y) (m:∀(j:Nat) (o:Oper),ops[j]? =some o→(∀cs b,o.op≠ .select cs b)∧(∀c,o.op≠ .defer c))
  (hQ:∀e a w,(∀c,e=.panic c→False)∨¬Q e a w):
  ∀(q:Nat) (L:qh) (f:Array Bool) (a:Act) (w:World),
   (∀j u,ops[j]? =some u→j≠i→f.getD j true=false→ii u i=false→
    (∀d,y.dst=some d→d∉u.looksAt ops)∧(∀d,y.dst=some d→u.dst≠some d)∧(∀d,u.dst=some d→d∉y.looksAt ops))→
   Shut ms f→i∈Region.ready .any ops f→YG P ops S y v a→S w.heap→(∀x∈L,x.2 w.heap)→
   Oi ms ro n P ops Q q ((i,S)::L) (f.setIfInBounds i true) (a.put y.dst v) w→Oi ms ro n P ops Q (q+1) L f a w:=by
 intro q;induction q with
 |zero=>
  intro L f a w _ _ B U W Y H;refine⟨fun h=>(by rw[h]at B;cases B),fun j F u g=>?_⟩
  by_cases p:j=i
  ·subst p
   rw[hi]at g;cases g;exact U.wpOp hi (m _ _ hi).2 W ⟨fun x hx=>Y x (ja.1 hx).1,H⟩
  ·have:=ready_mono F p
   rw[H.1]at this;cases this
 |succ q ih=>
  intro L f a w t T B U W Y H;refine⟨fun h=>(by rw[h]at B;cases B),fun j F u g=>?_⟩
  by_cases p:j=i
  ·subst p
   rw[hi]at g;cases g;exact U.wpOp hi (m _ _ hi).2 W ⟨fun x hx=>Y x (ja.1 hx).1,tF _ _ _ _ _ _ (fun x hx=>.inl (aG _ (ja.1 hx).1)) H⟩
  ·have s:=H.2 j (ready_mono F p) u g
   obtain⟨C,Z,A,J⟩:=mem_ready.1 F;rw[g]at A;cases A;have N:ii u i=false:=by
    cases hb:ii u i with
    |false=>rfl
    |true=>
     unfold ii at hb;obtain⟨e,he,hb⟩:=bS.1 hb;simp only[aY]at hb;have s:=J e (by simpa using he) hb.2;rw[aQ hb.1]at s;have G:=(mem_ready.1 B).1;rcases bV i f.size with h'|h'
     ·simp[h']at G s;rw[G]at s;cases s
     ·simp[jF h']at s
   have E:tb (zs ms (G3 ms j)) i=false:=by
    cases hb:tb (zs ms (G3 ms j)) i with
    |false=>rfl
    |true=>
     rw[yT]at hb;have s:=NG T (HS hm F) hb;have G:=(mem_ready.1 B).1;rcases bV i f.size with h'|h'
     ·simp[h']at G s;rw[G]at s;cases s
     ·simp[jF h']at s
   have I:rel ms j ((i,S)::L)=(i,S)::rel ms j L:=by simp only[rel,yZ,E,cond_false]
   rw[I]at s;have h2:=Jx g (t j u g p C N) (m _ _ hi).1 (m _ _ g).1 (m _ _ g).2 hQ U s;have z:∀k D,ops[k]? =some D→k≠i→(f.setIfInBounds j true).getD k true=false→ii D i=false→
     (∀d,y.dst=some d→d∉D.looksAt ops)∧(∀d,y.dst=some d→D.dst≠some d)∧(∀d,D.dst=some d→d∉y.looksAt ops):=fun k D hk X K V=>by
    refine t k D hk X ?_ V;by_cases O:j=k
    ·subst O;exact C
    ·rw[getD_set_ne true O]at K;exact K
   refine wpOpIn_mono (fun a' w' R=>⟨fun x hx=>R.2.1 x (aG _ hx),ih (rel ms j L) (f.setIfInBounds j true) a' w' z (T.put hm F) (ready_mono B (Ne.symm p)) R.1 (R.2.1 _ (au ..)) (fun x hx=>R.2.1 x (aG _ hx)) ?_⟩) h2
   rw[Array.setIfInBounds_comm _ _ p];exact R.2.2
theorem qN{h:ac}{R:Prop}:∀{L:qh},rg L h R↔(∀x∈L,x.2 h)∧R
 | []=>by simp[rg]
 |(k,S)::L=>by
  simp only[rg,qN (L:=L),aq,forall_eq_or_imp,and_assoc]
theorem Oh{ms:List DM}{f:Nat}{L:qh}{b:Array Bool}{a:Act}{w:World}(c:Region.ready .any ops b= [])(h:Q .normal a w):Oi ms ro n P ops Q f L b a w:=by
 cases f with
 |zero=>exact⟨c,h⟩
 |succ f=>exact⟨fun _=>h,by rw[c];simp⟩
def left(ops:Array Oper)(ls:Nat):Nat:=((eX ops.size).filter fun j=> !ls.testBit j).length
theorem vO{ls i:Nat}(hi:i<ops.size)(f:ls.testBit i=false):left ops (cC ls (fX i))+1=left ops ls:=by
 have key:∀l:List Nat,l.Nodup→i∈l→(l.filter fun j=> !(cC ls (fX i)).testBit j).length+1=(l.filter fun j=> !ls.testBit j).length:=by
  intro l;induction l with
  |nil=>intro _ h;cases h
  |cons x l ih=>
   intro b hm;rw[List.nodup_cons]at b;by_cases hx:x=i
   ·subst hx
    have a:(l.filter fun j=> !(cC ls (fX x)).testBit j)=l.filter fun j=> !ls.testBit j:=by
     apply List.filter_congr;intro y g;have:x≠y:=fun e=>b.1 (e▸g)
     rw[mQ,yu,decide_eq_false this,Bool.or_false]
    have d:(cC ls (fX x)).testBit x=true:=by rw[mQ,yu];simp
    rw[cf,cf,d,f,a];rfl
   ·have c:i∈l:=by rcases aq.1 hm with h|h;exact absurd h.symm hx;exact h
    have d:(cC ls (fX i)).testBit x=ls.testBit x:=by rw[mQ,yu,decide_eq_false (Ne.symm hx),Bool.or_false]
    have:=ih b.2 c;rw[cf,cf,d];cases ls.testBit x with
    |true=>exact this
    |false=>exact congrArg (· +1) this
 exact key _ List.nodup_range (List.mem_range.2 hi)
theorem Nz{N:Nat}{a:List Oper}{ms:List DM}{ls:Nat}{L:qh}{d:uh}{K:ce→ac→Prop}{r:ce}{b:ac}:∀{l:DA},l6 P N a ms l true ls L d K r b→∃i,i∈AP l
 | .done,h=>h.elim
 | .take i rest,h=>by
  exfalso;have hc:l6 P N a ms (.take i rest) true ls L d K r b=(match a[i]?,ms[i]? with|some _,some _=>False|_,_=>False):=rfl
  rw[hc]at h;split at h<;>exact h
 | .all _,h=>h.elim
 | .pick i _ _,_=>⟨i,au ..⟩
 | .last i _,_=>⟨i,au ..⟩
 | .lastT i _,_=>⟨i,au ..⟩
 | .split ..,h=>h.elim
def Lx(ro:Option Nat)(n:Nat)(P:Program)(ops:Array Oper)(Q:Exit→Act→World→Prop)(N:Nat)(ms:List DM)(W:Nat→Prop)(e:Act)(f:World)(K:ce→ac→Prop)(c:DA):Prop:=
 ∀(m:Bool) (ls:Nat) (L:qh) (d:uh) (r:ce) (a:Act) (w:World) (listed:Array Bool) (fuel:Nat),
  l6 P N ops.toList ms c m ls L d K r w.heap→Agree N r a→DecOk d r→Fr W e f a w→LsRel ops ls listed→Shut ms listed→(∀x∈L,x.2 w.heap)→
  (m=false→left ops ls≤fuel→Oi ms ro n P ops Q fuel L listed a w)∧
  (m=true→left ops ls≤fuel+1→∀i∈AP c,i∈kM ls ms 0→∀o,ops[i]? =some o→
   wpOpIn (FW ro) n P ops Q i (fun a' b=>(∀x∈rel ms i L,x.2 b.heap)∧Oi ms ro n P ops Q fuel (rel ms i L) (listed.setIfInBounds i true) a' b) a w)
theorem HM{N:Nat}{ms:List DM}(hm:MsOk ops ms){W:Nat→Prop}(hW:∀o∈ops.toList,∀d,o.dst=some d→W d){a0:Act}{w0:World}{K:ce→ac→Prop}
  (hQ:∀r a w,Agree N r a→Fr W a0 w0 a w→K r w.heap→Q .normal a w)(hnp:∀e a w,(∀c,e=.panic c→False)∨¬Q e a w)(da:DA):
  Lx ro n P ops Q N ms W a0 w0 K da:=by
 have one:∀(i:Nat) (q:DA)
   (_:Lx ro n P ops Q N ms W a0 w0 K q)
   (ls:Nat) (L:qh) (d:uh) (r:ce) (a:Act) (w:World) (f:Array Bool) (p:Nat),
   MZ P N ops.toList i L d r w.heap (fun L' d' F h'=>l6 P N ops.toList ms q false (cC ls (fX i)) L' d' K F h')→Agree N r a→DecOk d r→Fr W a0 w0 a w→LsRel ops ls f→Shut ms f→
   left ops ls≤p+1→i∈kM ls ms 0→∀o,ops[i]? =some o→
    wpOpIn (FW ro) n P ops Q i (fun a' w'=>(∀x∈rel ms i L,x.2 w'.heap)∧Oi ms ro n P ops Q p (rel ms i L) (f.setIfInBounds i true) a' w') a w:=by
  intro i q Y ls L d r a w f p g C hd I B s D hr o z;have A:i<ops.size:=(cd.1 z).1;obtain⟨k,mm,hk,hki,R,_⟩:=(qY ls ms 0 i).1 hr;unfold MZ at g;rw[aZ,z]at g;simp only at g;cases hw:ig ops.toList d o with
  |none=>rw[hw]at g;exact g.elim
  |some b=>
   rw[hw]at g;cases b with
   |false=>exact g.elim
   |true=>
    simp only at g;cases hq:u6 P o.op with
    |true=>
     rw[hq,cond_true]at g;unfold wpOpIn;rw[z];simp only[l4 hw C hd,if_true];obtain⟨v,S,hK,hS,_,Z⟩:=AE C g d hd;refine po (K:=fun u h'=>u=v∧h'=w.heap) (Bz g) (.inl ⟨v,w,Z w hS,Tame.refl w,rfl,rfl⟩) ?_
     rintro u w' ht ⟨rfl,hw'⟩;obtain⟨F,O,J,H⟩:=sf (dv:=.x) hK C hd trivial;obtain⟨hh,hs'⟩:=qN.1 O;have E:o∈ops.toList:=gb (by rw[aZ];exact z);have T:=vO A R;have G:∀x∈rel ms i L,x∈nr o L:=fun x hx=>vJ.2 ⟨(ja.1 hx).1,by
      cases hb:ii o x.1 with
      |false=>rfl
      |true=>
        have:=(ja.1 hx).2
        rw[yT,FO (by rw[G2 hm z];exact hb)]at this;cases this⟩
     rw[←hw']at hh hs';exact⟨fun x hx=>hh x (G x hx),tF _ _ _ _ _ _ (fun x hx=>.inl (G x hx)) ((Y false _ _ _ F _ w' _ p hs' J H (I.put (hW o E) u ht) (B.put A) (s.put hm ((lq hm B).2 hr)) hh).1 rfl (by omega))⟩
    |false=>
     rw[hq,cond_false]at g;unfold wpOpIn;rw[z];simp only[l4 hw C hd,if_true];refine po (vz g) (Au C g) ?_;intro v w' ht hK;obtain⟨F,O,J,H⟩:=sf (dv:=.x) hK C hd trivial;obtain⟨hh,hs'⟩:=qN.1 O;have E:o∈ops.toList:=gb (by rw[aZ];exact z);have T:=vO A R;have G:∀x∈rel ms i L,x∈nr o L:=fun x hx=>vJ.2 ⟨(ja.1 hx).1,by
      cases hb:ii o x.1 with
      |false=>rfl
      |true=>
        have:=(ja.1 hx).2
        rw[yT,FO (by rw[G2 hm z];exact hb)]at this;cases this⟩
     exact⟨fun x hx=>hh x (G x hx),tF _ _ _ _ _ _ (fun x hx=>.inl (G x hx)) ((Y false _ _ _ F _ w' _ p hs' J H (I.put (hW o E) v ht) (B.put A) (s.put hm ((lq hm B).2 hr)) hh).1 rfl (by omega))⟩
 have oneT:∀(i:Nat) (q:DA)
   (_:Lx ro n P ops Q N ms W a0 w0 K q)
   (ls:Nat) (L:qh) (d:uh) (r:ce) (a:Act) (w:World) (f:Array Bool) (p:Nat),
   L3 P N ops.toList ms i L d r w.heap (fun L' d' F h'=>l6 P N ops.toList ms q false (cC ls (fX i)) L' d' K F h')→Agree N r a→DecOk d r→Fr W a0 w0 a w→LsRel ops ls f→Shut ms f→
   left ops ls≤p+1→i∈kM ls ms 0→∀o,ops[i]? =some o→
    wpOpIn (FW ro) n P ops Q i (fun a' w'=>(∀x∈rel ms i L,x.2 w'.heap)∧Oi ms ro n P ops Q p (rel ms i L) (f.setIfInBounds i true) a' w') a w:=by
  intro i q Y ls L d r a w f p g C hd I B s D hr o z;have A:i<ops.size:=(cd.1 z).1;obtain⟨k,mm,hk,hki,R,_⟩:=(qY ls ms 0 i).1 hr;unfold L3 at g;rw[aZ,z]at g;simp only at g;cases hw:ig ops.toList d o with
  |none=>rw[hw]at g;exact g.elim
  |some b=>
   rw[hw]at g;cases b with
   |false=>exact g.elim
   |true=>
    simp only at g;cases hq:u6 P o.op with
    |true=>rw[hq]at g;exact g.elim
    |false=>
     rw[hq,cond_false]at g;unfold wpOpIn;rw[z];simp only[l4 hw C hd,if_true];refine po (vz g) (Au C g) ?_;intro v w' ht hK;obtain⟨F,O,J,H⟩:=sf (dv:=.x) hK C hd trivial;obtain⟨hh,hs'⟩:=qN.1 O;have E:o∈ops.toList:=gb (by rw[aZ];exact z);have T:=vO A R;exact⟨hh,(Y false _ _ _ F _ w' _ p hs' J H (I.put (hW o E) v ht) (B.put A) (s.put hm ((lq hm B).2 hr)) hh).1 rfl (by omega)⟩
 induction da with
 |done=>
  intro m ls L d r a w f p g C hd I B s V;cases m with
  |true=>exact g.elim
  |false=>
   refine⟨fun _ _=>?_,fun h=>by cases h⟩
   have hc:l6 P N ops.toList ms .done false ls L d K r w.heap=bif uv (kM ls ms 0) []then K r w.heap else False:=rfl;rw[hc]at g;cases hb:uv (kM ls ms 0) []with
   |false=>rw[hb]at g;exact g.elim
   |true=>
    rw[hb]at g;have hnil:Region.ready .any ops f= []:=by
     apply List.eq_nil_iff_forall_not_mem.2;intro j U;rw[lq hm B,wS hb]at U;cases U
    exact Oh hnil (hQ r a w C I g)
 |take i q Y=>
  intro m ls L d r a w f p g C hd I B s V;cases m with
  |true=>
   exfalso;have hc:l6 P N ops.toList ms (.take i q) true ls L d K r w.heap=(match ops.toList[i]?,ms[i]? with|some _,some _=>False|_,_=>False):=rfl
   rw[hc]at g;split at g<;>exact g
  |false=>
   refine⟨fun _ D=>?_,fun h=>by cases h⟩
   have hc:l6 P N ops.toList ms (.take i q) false ls L d K r w.heap=(match ops.toList[i]?,ms[i]? with
    |some o,some mi=>bif CV mi i ls ops.toList.length then
      (match ig ops.toList d o with
       |none=>False
       |some false=>yp N o undef r fun F=>l6 P N ops.toList ms q false (cC ls (fX i)) L (qQ d o .u) K F w.heap
       |some true=>bif u6 P o.op then
          Aq P none o.op r (fun v S=>yp N o v r fun F=>match S with
            |none=>l6 P N ops.toList ms q false (cC ls (fX i)) L (qQ d o (Hp d o.op)) K F w.heap
            |some S=>l6 P N ops.toList ms q false (cC ls (fX i)) ((i,S)::L) (qQ d o (Hp d o.op)) K F w.heap) w.heap
          else False)
     else False
    |_,_=>False):=rfl
   rw[hc]at g;split at g
   ·rename_i o mi z hmi
    rw[aZ]at z;cases htk:CV mi i ls ops.toList.length with
    |false=>rw[htk]at g;exact g.elim
    |true=>
     rw[htk,cond_true]at g;unfold CV at htk;simp only[aY,oh,yT]at htk;obtain⟨⟨hun,hrd⟩,hfr⟩:=htk;have A:i<ops.size:=(cd.1 z).1;have y:i∈Region.ready .any ops f:=(Fb hm B).2 ⟨mi,hmi,hun,hrd⟩;have T:=vO (ops:=ops) A hun;obtain⟨f',rfl⟩:∃f',p=f'+1:=⟨p-1,by omega⟩
     have E:o∈ops.toList:=gb (by rw[aZ];exact z);have hcov:∀j,j<ops.size→ls.testBit j=true∨mi.fr.testBit j=true:=by
      intro j U;have h0:=aQ hfr;have hpb:(wL (fX ops.toList.length)).testBit j=true:=by
        have:wL (fX ops.toList.length)=2^ops.toList.length-1:=rfl;rw[this,Nat.testBit_two_pow_sub_one];simpa using U
      have hand:(iS (cC ls mi.fr) (wL (fX ops.toList.length))).testBit j=((cC ls mi.fr).testBit j&&(wL (fX ops.toList.length)).testBit j):=jR _ _ j;rw[h0,hpb,tE,mQ]at hand;exact(Bool.or_eq_true_iff).1 hand.symm
     have X:∀j oj,ops[j]? =some oj→j≠i→f.getD j true=false→ii oj i=false→
        (∀d,o.dst=some d→d∉oj.looksAt ops)∧(∀d,o.dst=some d→oj.dst≠some d)∧(∀d,oj.dst=some d→d∉o.looksAt ops):=by
      intro j oj hoj hne hju hna;have U:j<ops.size:=(cd.1 hoj).1;rw[B.unlisted U]at hju;have hjm:j<ms.length:=by rw[hm.len];exact U
      have hmj:=al hjm;rcases hcov j U with h|h
      · rw[h]at hju;cases hju
      · rcases hm.free i j mi _ hmi hmj h with h|h|h
        ·exact absurd h hne
        ·rw[hm.am j oj _ hoj hmj,hna]at h;cases h
        ·exact P2 hm z hoj hmi hmj h
     cases hw:ig ops.toList d o with
     |none=>rw[hw]at g;exact g.elim
     |some b=>
      rw[hw]at g;have hwd:=l4 hw C hd;cases b with
      |false=>
        obtain⟨F,O,J,H⟩:=sf (dv:=.u) g C hd rfl;have hy:YG P ops (fun _=>True) o undef a:=.inr ⟨hwd,rfl⟩
        refine CI hm z hm.nosel hnp f' L f a w X s y hy trivial V ?_;refine tF _ L _ _ _ _ (fun x hx=>(aq.1 hx).elim (fun e=>.inr fun h=>by rw[e];trivial) .inl) ?_
        exact(Y false _ _ _ F _ w _ f' O J H (I.put (hW o E) undef (Tame.refl w)) (B.put A) (s.put hm y) V).1 rfl (by omega)
      |true=>
        simp only at g;cases hq:u6 P o.op with
        |false=>rw[hq]at g;exact g.elim
        |true=>
         rw[hq,cond_true]at g;obtain⟨v,S,hK,hS,hdv,Z⟩:=AE C g d hd;obtain⟨F,O,J,H⟩:=sf hK C hd hdv;have hfr':=I.put (hW o E) v (Tame.refl w);cases S with
         |none=>
           have hy:YG P ops (fun _=>True) o v a:=.inl ⟨hwd,fun w _=>Z w trivial⟩
           refine CI hm z hm.nosel hnp f' L f a w X s y hy trivial V ?_;refine tF _ L _ _ _ _ (fun x hx=>(aq.1 hx).elim (fun e=>.inr fun h=>by rw[e];trivial) .inl) ?_
           exact(Y false _ _ _ F _ w _ f' O J H hfr' (B.put A) (s.put hm y) V).1 rfl (by omega)
         |some S=>
           have hy:YG P ops S o v a:=.inl ⟨hwd,fun w h=>Z w h⟩
           refine CI hm z hm.nosel hnp f' L f a w X s y hy hS V ?_;exact(Y false _ _ _ F _ w _ f' O J H hfr' (B.put A) (s.put hm y) (fun x hx=>(aq.1 hx).elim (fun e=>by rw[e];exact hS) (V x))).1 rfl (by omega)
   ·exact g.elim
 |all l Y=>
  intro m ls L d r a w f p g C hd I B s V;cases m with
  |true=>exact g.elim
  |false=>
   refine⟨fun _ D=>?_,fun h=>by cases h⟩
   have hc:l6 P N ops.toList ms (.all l) false ls L d K r w.heap=bif uv (kM ls ms 0) (AP l)then l6 P N ops.toList ms l true ls L d K r w.heap else False:=rfl;rw[hc]at g;cases hb:uv (kM ls ms 0) (AP l)with
   |false=>rw[hb]at g;exact g.elim
   |true=>
    rw[hb,cond_true]at g;obtain⟨i,hi⟩:=Nz g;rw[←wS hb]at hi;have hrd:=(lq hm B (j:=i)).2 hi;obtain⟨k,mm,hk,hki,R,_⟩:=(qY ls ms 0 i).1 hi;have A:i<ops.size:=by
     have:=(bW.1 hk).1;rw[hm.len]at this;omega
    have T:=vO (ops:=ops) A R;obtain⟨f',rfl⟩:∃f',p=f'+1:=⟨p-1,by omega⟩
    refine⟨fun h=>(by rw[h]at hrd;cases hrd),fun j U o z=>?_⟩
    have hj':=(lq hm B).1 U;exact(Y true ls L d r a w f f' g C hd I B s V).2 rfl D j (by rw[←wS hb];exact hj') hj' o z
 |pick i q more ih1 ih2=>
  intro m ls L d r a w f p g C hd I B s V;cases m with
  |false=>exact g.elim
  |true=>
   refine⟨fun h=>(by cases h),fun _ D j U hjr o z=>?_⟩
   have g:MZ P N ops.toList i L d r w.heap (fun L' d' F h'=>l6 P N ops.toList ms q false (cC ls (fX i)) L' d' K F h')∧l6 P N ops.toList ms more true ls L d K r w.heap:=g
   rcases aq.1 U with rfl|U
   ·exact one _ q ih1 ls L d r a w f p g.1 C hd I B s D hjr o z
   ·exact(ih2 true ls L d r a w f p g.2 C hd I B s V).2 rfl D j U hjr o z
 |last i q Y=>
  intro m ls L d r a w f p g C hd I B s V;cases m with
  |false=>exact g.elim
  |true=>
   refine⟨fun h=>(by cases h),fun _ D j U hjr o z=>?_⟩
   have g:MZ P N ops.toList i L d r w.heap (fun L' d' F h'=>l6 P N ops.toList ms q false (cC ls (fX i)) L' d' K F h'):=g
   have hji:j=i:=aB.1 U;subst hji;exact one _ q Y ls L d r a w f p g C hd I B s D hjr o z
 |lastT i q Y=>
  intro m ls L d r a w f p g C hd I B s V;cases m with
  |false=>exact g.elim
  |true=>
   refine⟨fun h=>(by cases h),fun _ D j U hjr o z=>?_⟩
   have g:L3 P N ops.toList ms i L d r w.heap (fun L' d' F h'=>l6 P N ops.toList ms q false (cC ls (fX i)) L' d' K F h'):=g
   have hji:j=i:=aB.1 U;subst hji;exact oneT _ q Y ls L d r a w f p g C hd I B s D hjr o z
 |split t yes no ih1 ih2=>
  intro m ls L d r a w f p g C hd I B s V;cases m with
  |true=>exact g.elim
  |false=>
   refine⟨fun _ D=>?_,fun h=>by cases h⟩
   have hc:l6 P N ops.toList ms (.split t yes no) false ls L d K r w.heap=(match jp r t with
    |some (.bool b)=>CondP b (l6 P N ops.toList ms yes false ls L ((t,.t)::d) K ((t,.bool true)::r) w.heap) (l6 P N ops.toList ms no false ls L ((t,.f)::d) K ((t,.bool false)::r) w.heap)
    |_=>False):=rfl
   rw[hc]at g;split at g
   ·rename_i b hlk
    cases b with
    |true=>exact(ih1 false ls L _ _ a w f p (g.yes rfl) (C.known hlk) (hd.known rfl) I B s V).1 rfl D
    |false=>exact(ih2 false ls L _ _ a w f p (g.no rfl) (C.known hlk) (hd.known rfl) I B s V).1 rfl D
   ·exact g.elim
end Go.Lift
namespace Go.Lift
open Go
variable {P:Program} {ro:Option Nat} {n:Nat}
theorem Fx{r:ce}:∀{l:List Nat} {r0:ce},Mf r l=some r0→∀t v,jp r0 t=some v→t∈l∧jp r t=some v
 | [],r0,h,t,v,hv=>by cases h;cases hv
 |s::l,r0,h,t,v,hv=>by
  have h:(match jp r s,Mf r l with|some v,some l=>some ((s,v)::l)|_,_=>none)=some r0:=h
  split at h
  ·rename_i u l' hu hl
   cases h;by_cases e:s=t
   ·subst e;rw[gS]at hv;cases hv;exact⟨au ..,hu⟩
   ·rw[fZ u _ e]at hv
    have:=Fx hl t v hv;exact⟨aG _ this.1,this.2⟩
  ·cases h
theorem AM{m:Nat}{t:Nat}{v:Value}:∀{r:ce},jp (vQ m r) t=some v→m.testBit t=false∧jp r t=some v
 | [],h=>by cases h
 |(k,u)::r,h=>by
  have h:jp (bif tb m k then vQ m r else(k,u)::vQ m r) t=some v:=h;cases hk:tb m k with
  |true=>
   rw[hk]at h;have:=AM h;by_cases e:k=t
   ·subst e;rw[yT,this.1]at hk;cases hk
   ·rw[fZ u _ e];exact this
  |false=>
   rw[hk]at h;have h:jp ((k,u)::vQ m r) t=some v:=h;by_cases e:k=t
   ·subst e;rw[gS]at h⊢;rw[yT]at hk;exact⟨hk,h⟩
   ·rw[fZ u _ e]at h⊢;exact AM h
theorem As{t:Nat}:∀{l:List Oper},(Ok l).testBit t=false→¬kD t l=true
 | [],_,h=>by cases h
 |o::l,hm,h=>by
  have hm:(cC (my o) (Ok l)).testBit t=false:=hm;rw[mQ,ll]at hm;have h:(match o.dst with|some d=>bif bD d t then true else kD t l|none=>kD t l)=true:=h
  cases hd:o.dst with
  |none=>rw[hd]at h;exact As hm.2 h
  |some d=>
   rw[hd]at h;cases e:bD d t with
   |true=>have:=(wt o t).2 (by rw[hd,aQ e]);rw[hm.1]at this;cases this
   |false=>simp only[e]at h;exact As hm.2 h
theorem H9{a b:Option Nat}{m:Nat}(h:TH a b=some m):∃x y,a=some x∧b=some y∧m=cC x y:=by
 cases a<;>cases b<;>cases h
 exact⟨_,_,rfl,rfl,rfl⟩
theorem Oj{t:Nat}(c:Code):∀{m:Nat},xw c=some m→m.testBit t=false→¬fI t c=true:=by
 induction c with
 |skip=>intro m _ _ h;cases h
 |region id ops dr=>intro m h hm d;cases h;exact As hm d
 |seq a b iha ihb=>
  intro m h hm d;obtain⟨x,y,hx,e,rfl⟩:=H9 (show TH (xw a) (xw b)=some m from h)
  rw[mQ,ll]at hm;have d:(bif fI t a then true else fI t b)=true:=d;cases ha:fI t a with
  |true=>exact iha hx hm.1 ha
  |false=>rw[ha]at d;exact ihb e hm.2 d
 |cond c a b iha ihb=>
  intro m h hm d;obtain⟨x,y,hx,e,rfl⟩:=H9 (show TH (xw a) (xw b)=some m from h)
  rw[mQ,ll]at hm;have d:(bif fI t a then true else fI t b)=true:=d;cases ha:fI t a with
  |true=>exact iha hx hm.1 ha
  |false=>rw[ha]at d;exact ihb e hm.2 d
 |block id b ih=>exact fun h hm=>ih h hm
 |loop b ih=>exact fun h hm=>ih h hm
 |rangeFunc _ _ _ _ _ _=>intro m h;cases h
 |scope b ih=>exact fun h hm=>ih h hm
 |_=>intro m _ _ h;cases h
theorem Agree.keep{N:Nat}{r e:ce}{a a':Act}{w d:World}{m:Nat}{c:Code}(h:Agree N r a)(hm:xw c=some m)(f:Fr (fun t=>fI t c=true) a w a' d)(h':Agree N e a'):Agree N (vQ m r) a':=
 ⟨h'.size,fun t v hv=>by
  obtain⟨hb,b⟩:=AM hv
  rw[f.same t (Oj c hm hb)];exact h.look t v b⟩
theorem vE{st:St}{r:ce}{f:uQ (xV st)→Prop}(h:Bu st r f):∃t,C0 r st=some (lR (xV st) t)∧f t:=by
 unfold Bu at h;split at h
 ·rename_i vs hv
  obtain⟨t,rfl,a⟩:=rr h;exact⟨t,hv,a⟩
 ·exact h.elim
theorem Agree.zip{N:Nat}{r:ce}{a:Act}(h:Agree N r a):∀{st:St} {vs:List Value} {r0:ce},C0 r st=some vs→Agree N r0 a→Agree N (mq st vs r0) a
 | [],vs,r0,_,h0=>by cases vs<;>exact h0
 |(i,k)::st,vs,r0,hv,h0=>by
  unfold C0 at hv;split at hv
  ·rename_i v vs' h1 h2
   cases hv;have:=Agree.zip h h2 h0;refine⟨this.size,fun t u b=>?_⟩
   by_cases e:i=t
   ·subst e
    rw[show mq ((i,k)::st) (v::vs') r0=(i,v)::mq st vs' r0 from rfl,gS]at b;cases b
    exact h.look i v h1
   ·rw[show mq ((i,k)::st) (v::vs') r0=(i,v)::mq st vs' r0 from rfl,fZ v _ e]at b
    exact this.look t u b
  ·cases hv
theorem yM{t:Nat}:∀{l:List Oper} {o:Oper},o∈l→o.dst=some t→kD t l=true
 | [],_,h,_=>by cases h
 |x::l,o,h,hd=>by
  have e:kD t (x::l)=(match x.dst with|some d=>bif bD d t then true else kD t l|none=>kD t l):=rfl
  rw[e];rcases aq.1 h with rfl|h
  ·rw[hd];simp only;rw[show bD t t=true from qS t];rfl
  ·have:=yM h hd
   cases x.dst with
   |none=>exact this
   |some d=>
    simp only;cases bD d t with
    |true=>rfl
    |false=>exact this
def LWP(ro:Option Nat)(n:Nat)(P:Program)(c:Code)(Q:Exit→Act→World→Prop)(a:Act)(w:World):Prop:=
 ∀(b:Frame) (k:List Item) (cs:List Frame),b.roundOf=(FW ro).round→(FW ro).fn b.fn→(FW ro).room (cs.length+1+n)→
  ∃e a' w',Q e a' w'∧ArrivesIn (Machine.fenced P (FW ro)) P (lone (b.atR a (.code c:: .inLoop c::k)) cs w) b k cs e a' w'
theorem LWP.step{c:Code}{Q:Exit→Act→World→Prop}{a:Act}{w:World}(h:c.wpIn (FW ro) n P (Exit.then (LWP ro n P c Q) Q) a w):LWP ro n P c Q a w:=by
 intro b k cs i hb p;obtain⟨e,j,m,g,d⟩:=h b (.inLoop c::k) cs i hb p;cases e with
 |normal=>
  obtain⟨t,s,q,o,f⟩:=g b k cs i hb p;exact⟨t,s,q,o,.of_steps (StepsIn.trans d (.one (fenced_calm hb p rfl) stepR_inLoop)) f⟩
 |exit id=>exact⟨_,j,m,g,.pass (x:=.inLoop c) rfl (fun _ _=>.inl (by simp)) d⟩
 |goto l=>exact⟨_,j,m,g,.pass (x:=.inLoop c) rfl (fun _ _=>.inl (by simp)) d⟩
 |ret=>exact⟨_,j,m,g,.pass (x:=.inLoop c) rfl (fun _ _=>.inl (by simp)) d⟩
 |panic ch=>exact⟨_,j,m,g,.pass (x:=.inLoop c) rfl (fun _ _=>.inl (by simp)) d⟩
 |outgrown=>exact⟨_,j,m,g,.pass (x:=.inLoop c) rfl (fun _ _=>.inl (by simp)) d⟩
theorem LWP.loop{c:Code}{Q:Exit→Act→World→Prop}{a:Act}{w:World}(h:LWP ro n P c Q a w):(Code.loop c).wpIn (FW ro) n P Q a w:=by
 intro b k cs f hb g;obtain⟨e,a',i,j,d⟩:=h b k cs f hb g;exact⟨e,a',i,j,.of_steps (.one (fenced_calm hb g rfl) stepR_loop) d⟩
theorem FL(r:ce):DecOk [] r:=fun _=>.inl rfl
theorem Ro(ops:Array Oper)(ls:Nat):left ops ls≤ops.size:=by
 unfold left;exact Nat.le_trans (List.length_filter_le ..) (by simp)
theorem kI(f:P.follows .mixedOrders=true){N id:Nat}{ops:Array Oper}{g:Bool}{p:Ann}{K:ce→ac→Prop}{r:ce}{a:Act}{w:World}{Q:Exit→Act→World→Prop}
  (b:AA P N ops.toList g p K r w.heap)(k:Agree N r a)(q:∀c a w,¬Q (.panic c) a w)
  (i:∀r' a' w',Agree N r' a'→Fr (fun t=>kD t ops.toList=true) a w a' w'→K r' w'.heap→Q .normal a' w'):(Code.region id ops g).wpIn (FW ro) n P Q a w:=by
 have m:∀o∈ops.toList,∀d,o.dst=some d→kD d ops.toList=true:=fun o u d hd=>yM u hd
 cases g with
 |false=>
  have key:∀ek,C5 P N ek ops.toList ops.toList [] K r w.heap→(Code.region id ops false).wpIn (FW ro) n P Q a w:=fun ek b=>by
   refine wpIn_region ?_;rw[List.range_eq_range',show ops.size=ops.toList.length from rfl]
   exact C4 m i ops.toList 0 rfl [] r a w b k (FL r) (Fr.refl _ a w)
  unfold AA at b;simp only at b;split at b
  ·exact key _ b
  ·exact key _ b
 |true=>
  unfold AA at b;simp only at b;generalize L9 ops.toList=ms at b;cases hm:Cy ops.toList ms with
  |false=>rw[hm]at b;exact b.elim
  |true=>
   rw[hm,cond_true]at b;refine wpIn_region_any f (LL (ms:=ms) _ [] _ _ _ ?_);have v:Tame w {w with drawn:=w.drawn+1}:=⟨rfl,rfl,rfl⟩;have s:Fr (fun t=>kD t ops.toList=true) a w a {w with drawn:=w.drawn+1}:=⟨v,rfl,fun _ _=>rfl⟩
   refine(HM (Ko hm) m i (fun e a w=>?_) _ false 0 [] [] r a {w with drawn:=w.drawn+1} _ ops.size b k (FL r) s LsRel.start (fun j x _ h=>by rw[(LsRel.start (ops:=ops)).bit,Nat.zero_testBit]at h;cases h) (fun x hx=>by cases hx)).1 rfl (Ro ops 0)
   cases e with
   |panic ch=>exact .inr (q _ a w)
   |_=>exact .inl fun c hc=>by cases hc
theorem CG(t:Nat)(x y:Code):fI t (.seq x y)=(bif fI t x then true else fI t y):=rfl
theorem Bm(t:Nat)(c:Operand)(x y:Code):fI t (.cond c x y)=(bif fI t x then true else fI t y):=rfl
theorem GZ{a b:Bool}:(bif a then true else b)=true↔a=true∨b=true:=by cases a<;>cases b<;>decide
theorem rR(z:P.follows .mixedOrders=true){N:Nat}(c:Code):∀(E:Ann) (Kn:ce→ac→Prop) (Kx:Ex→ce→ac→Prop) (r:ce) (a:Act) (w:World) (Q:Exit→Act→World→Prop),
  jH P N c E Kn Kx r w.heap→Agree N r a→(∀R a w,¬Q (.panic R) a w)→
  (∀j a' g,Agree N j a'→Fr (fun t=>fI t c=true) a w a' g→Kn j g.heap→Q .normal a' g)→
  (∀i j a' g,Agree N j a'→Fr (fun t=>fI t c=true) a w a' g→Kx (.exit i) j g.heap→Q (.exit i) a' g)→
  (∀j a' g,Agree N j a'→Fr (fun t=>fI t c=true) a w a' g→Kx .ret j g.heap→Q .ret a' g)→
  c.wpIn (FW ro) n P Q a w:=by
 induction c with
 |skip=>
  intro E Kn Kx r a w Q o u _ A _ _;exact wpIn_skip (A r a w u (Fr.refl ..) o)
 |region id ops dr=>
  intro E Kn Kx r a w Q o u C A _ _;cases E with
  |reg keep inner=>
   have o:AA P N ops.toList dr inner (fun j h'=>match Mf j keep with|some r0=>Kn r0 h'|none=>False) r w.heap:=o
   refine kI z o u C fun j a' g U X hk=>?_
   split at hk
   ·rename_i r0 hr0
    refine A r0 a' g ⟨U.size,fun t v hv=>U.look t v (Fx hr0 t v hv).2⟩ X hk
   ·exact hk.elim
  |nil=>exact kI z (show AA P N ops.toList dr (.nil) Kn r w.heap from o) u C A
  |node x y=>exact kI z (show AA P N ops.toList dr (.node x y) Kn r w.heap from o) u C A
  |join st x y=>exact kI z (show AA P N ops.toList dr (.join st x y) Kn r w.heap from o) u C A
  |loop st y=>exact kI z (show AA P N ops.toList dr (.loop st y) Kn r w.heap from o) u C A
  |draw d=>exact kI z (show AA P N ops.toList dr (.draw d) Kn r w.heap from o) u C A
  |kinds k v=>exact kI z (show AA P N ops.toList dr (.kinds k v) Kn r w.heap from o) u C A
  |rf ks x y=>exact kI z (show AA P N ops.toList dr (.rf ks x y) Kn r w.heap from o) u C A
 |seq x y ihx ihy=>
  intro E Kn Kx r a w Q o u C A hx H;have F:∀{a' g},Fr (fun t=>fI t x=true) a w a' g→Fr (fun t=>fI t (.seq x y)=true) a w a' g:=fun h=>h.mono fun t S=>by rw[CG,GZ];exact .inl S
  have D:∀{a' g K I},Fr (fun t=>fI t x=true) a w a' g→Fr (fun t=>fI t y=true) a' g K I→Fr (fun t=>fI t (.seq x y)=true) a w K I:=
   fun h k=>(F h).trans (k.mono fun t S=>by rw[CG,GZ];exact .inr S)
  have plain:∀W O,jH P N x W (fun j h'=>jH P N y O Kn Kx j h') Kx r w.heap→(Code.seq x y).wpIn (FW ro) n P Q a w:=fun W O o=>by
   refine wpIn_seq (ihx W _ Kx r a w _ o u (fun R a w=>C R a w) ?_ (fun i j a' g s q p=>hx i j a' g s (F q) p) (fun j a' g s q p=>H j a' g s (F q) p))
   intro r1 V Z G B L;exact ihy O Kn Kx r1 V Z Q L G C (fun j a' g s q p=>A j a' g s (D B q) p) (fun i j a' g s q p=>hx i j a' g s (D B q) p) (fun j a' g s q p=>H j a' g s (D B q) p)
  cases E with
  |join st W O=>
   have o:(match xw x with
      |none=>False
      |some m=>Join (T:=uQ (xV st)) (fun t h'=>jH P N y O Kn Kx (mq st (lR (xV st) t) (vQ m r)) h')
       fun J=>jH P N x W (fun j h'=>Bu st j fun t=>J t h') Kx r w.heap):=o
   split at o
   ·exact o.elim
   ·rename_i m hm
    refine wpIn_seq (ihx W _ Kx r a w _ o.run u (fun R a w=>C R a w) ?_ (fun i j a' g s q p=>hx i j a' g s (F q) p) (fun j a' g s q p=>H j a' g s (F q) p))
    intro r1 V Z G B L;obtain⟨t,hst,hs2⟩:=vE L;have ha2:Agree N (mq st (lR (xV st) t) (vQ m r)) V:=G.zip hst (u.keep hm B G);exact ihy O Kn Kx _ V Z Q hs2 ha2 C (fun j a' g s q p=>A j a' g s (D B q) p) (fun i j a' g s q p=>hx i j a' g s (D B q) p) (fun j a' g s q p=>H j a' g s (D B q) p)
  |_=>exact plain _ _ o
 |cond c x y ihx ihy=>
  intro E Kn Kx r a w Q o u C A hx H;have o:(match cR r c with
   |some (.bool t)=>CondP t (jH P N x E.l Kn Kx r w.heap) (jH P N y E.r Kn Kx r w.heap)
   |_=>False):=o
  have F:∀{a' g},Fr (fun t=>fI t x=true) a w a' g→Fr (fun t=>fI t (.cond c x y)=true) a w a' g:=fun h=>h.mono fun t S=>by rw[Bm,GZ];exact .inl S
  have D:∀{a' g},Fr (fun t=>fI t y=true) a w a' g→Fr (fun t=>fI t (.cond c x y)=true) a w a' g:=fun h=>h.mono fun t S=>by rw[Bm,GZ];exact .inr S
  split at o
  ·rename_i t S
   refine wpIn_cond_split (jq u S) (fun e=>?_) (fun e=>?_)
   ·exact ihx _ Kn Kx r a w Q (o.yes e) u C (fun j a' g s q p=>A j a' g s (F q) p) (fun i j a' g s q p=>hx i j a' g s (F q) p) (fun j a' g s q p=>H j a' g s (F q) p)
   ·exact ihy _ Kn Kx r a w Q (o.no e) u C (fun j a' g s q p=>A j a' g s (D q) p) (fun i j a' g s q p=>hx i j a' g s (D q) p) (fun j a' g s q p=>H j a' g s (D q) p)
  ·exact o.elim
 |block id b ih=>
  intro E Kn Kx r a w Q o u C A hx H;refine wpIn_block (ih E Kn _ r a w _ o u (fun R a w=>C R a w) A (fun i j a' g s q p=>?_) H)
  simp only[Exit.inBlock]at p⊢;cases hi:bD i id with
  |true=>
   rw[hi,cond_true]at p;rw[if_pos (aQ hi)];exact A j a' g s q p
  |false=>
   rw[hi,cond_false]at p;rw[if_neg (fun e=>by rw[e,qS]at hi;cases hi)]
   exact hx i j a' g s q p
 |loop b ih=>
  intro E Kn Kx r a w Q o u C A hx H;cases E with
  |loop st O=>
   have o:(match xw b with
      |none=>False
      |some m=>Bu st r fun t0=>LoopP (T:=uQ (xV st)) (fun self t h'=>jH P N b O (fun j h''=>Bu st j fun t'=>self t' h'') Kx (mq st (lR (xV st) t) (vQ m r)) h') t0 w.heap):=o
   split at o
   ·exact o.elim
   ·rename_i m hm
    obtain⟨t0,Y,hl⟩:=vE o;have h0:=hl.run (fun t h'=>∀a' g,g.heap=h'→Agree N (mq st (lR (xV st) t) (vQ m r)) a'→Fr (fun t=>fI t b=true) a w a' g→LWP ro n P b Q a' g) (fun t h' hF a' g hw U X=>by
     subst hw
     refine LWP.step (ih O _ Kx _ a' g _ hF U (fun R a w=>C R a w) ?_ (fun i j K I s q p=>hx i j K I s (X.trans q) p) (fun j K I s q p=>H j K I s (X.trans q) p))
     intro r1 V Z G B L
     obtain⟨t1,hst1,hk1⟩:=vE L
     exact hk1 V Z rfl (G.zip hst1 (u.keep hm (X.trans B) G)) (X.trans B))
    exact LWP.loop (h0 a w rfl (u.zip Y (u.keep hm (Fr.refl _ a w) u)) (Fr.refl _ a w))
  |_=>exact o.elim
 |rangeFunc f params assign body _ _=>intro E Kn Kx r a w Q o;exact o.elim
 |exit id=>
  intro E Kn Kx r a w Q o u C A hx H;exact wpIn_exit (hx id r a w u (Fr.refl ..) o)
 |scope b _=>intro E Kn Kx r a w Q o;exact o.elim
 |label l=>
  intro E Kn Kx r a w Q o u C A hx H;exact wpIn_label (A r a w u (Fr.refl ..) o)
 |goto l=>intro E Kn Kx r a w Q o;exact o.elim
 |ret=>
  intro E Kn Kx r a w Q o u C A hx H;exact wpIn_ret (H r a w u (Fr.refl ..) o)
 |refuse why=>intro E Kn Kx r a w Q o;exact o.elim
end Go.Lift
namespace Go.Lift
open Go
variable {P:Program}
theorem pc{N:Nat}{r:ce}{a:Act}{w:World}(c:Agree N r a):∀{l:List ResultVar} {K:List Value→Prop},mu P r w.heap l K→
  ∃vs,(∀g:ResultVar→Sem Value,(∀t,g (.tmp t)=pure (a.tmps.getD t undef))→(∀x t,g (.cell x t)=do loadVar t (←asAddr (a.tmps.getD x undef)))→(l.mapM g).run P w=.ok vs w)∧K vs
 | [],K,h=>⟨[],fun g _ _=>by rw[List.mapM_nil];rfl,h⟩
 | .tmp t::l,K,h=>by
  unfold mu at h;split at h
  ·rename_i v hv
   obtain⟨vs,i,f⟩:=pc c h;refine⟨v::vs,fun g e d=>?_,f⟩
   rw[List.mapM_cons,e];simp only[Sem.run_bind,Sem.run_pure,Result.andThen_ok];rw[i g e d];simp only[Result.andThen_ok,c.look t v hv]
  ·exact h.elim
 | .cell x t::l,K,h=>by
  unfold mu at h;split at h
  ·rename_i v hv
   obtain⟨u,S,m,n,k⟩:=BA h;obtain⟨vs,i,f⟩:=pc c m;refine⟨u::vs,fun g e d=>?_,f⟩
   rw[List.mapM_cons,d];have j:(do loadVar t (←asAddr (a.tmps.getD x undef)):Sem Value).run P w=.ok u w:=by
    rw[c.look x v hv];unfold HW at h;cases v with
    |pointer p=>cases p with
     |none=>exact h.elim
     |some b=>exact k w n
    |_=>exact h.elim
   simp only[Sem.run_bind]at j⊢;rw[j];simp only[Result.andThen_ok];rw[i g e d];simp only[Sem.run_pure,Result.andThen_ok]
  ·exact h.elim
theorem Fa(ks:List Kind)(t:uQ ks):(if h:(lR ks t).toArray.size=1 then(lR ks t).toArray[0]else Value.tuple (lR ks t).toArray)=Ca ks (lR ks t):=by
 match ks,t with
 | [],t=>rfl
 | [k],t=>rfl
 |k::l::ks,(x,t)=>
  have:(lR (k::l::ks) (x,t)).length=(k::l::ks).length:=se _ _;rw[dif_neg (by simp only[cP,this,aN];omega)];rfl
theorem uL:∀(vs:List Value) (i t:Nat) (v:Value),jp (pk i vs) t=some v→i≤t∧vs[t-i]? =some v
 | [],i,t,v,h=>by cases h
 |u::vs,i,t,v,h=>by
  by_cases e:i=t
  ·subst e
   rw[show pk i (u::vs)=(i,u)::pk (i+1) vs from rfl,gS]at h
   cases h;exact⟨Nat.le_refl _,by simp⟩
  ·rw[show pk i (u::vs)=(i,u)::pk (i+1) vs from rfl,fZ u _ e]at h
   obtain⟨b,a⟩:=uL vs (i+1) t v h;refine⟨by omega,?_⟩;rw[show t-i=(t-(i+1))+1 by omega,List.getElem?_cons_succ]
   exact a
theorem MB(i:P.follows .mixedOrders=true){n:Nat}{fn:Func}{c:Code}{p:Ann}{args:List Value}{ks:List Kind}{K:uQ ks→ac→Prop}{w:World}(q:args.length≤fn.ntmps)(y:HN P fn c p args ks K w.heap):
  c.wpIn (FW none) n P (bodyPost P fn fun e b=>Tame w b∧∃t:uQ ks,e=.returned (Ca ks (lR ks t))∧K t b.heap) {tmps:=args.toArray++mC (fn.ntmps-args.toArray.size) undef,defers:= []} w:=by
 have s:Agree fn.ntmps (pk 0 args) {tmps:=args.toArray++mC (fn.ntmps-args.toArray.size) undef,defers:= []}:=by
  refine⟨by simp;omega,fun t v hv=>?_⟩
  obtain⟨_,k⟩:=uL args 0 t v hv;simp only[eT]at k;have d:=(bW.1 k).1;simp[Array.getElem?_append,d];rw[al d]at k;cases k;rfl
 have j:∀o a' (b:World),Agree fn.ntmps o a'→Fr (fun t=>fI t c=true) {tmps:=args.toArray++mC (fn.ntmps-args.toArray.size) undef,defers:= []} w a' b→
   mu P o b.heap fn.results.toList (fun vs=>Cf ks vs fun t=>K t b.heap)→
   a'.defers= []∧∃v,(results fn a'.tmps).run P b=.ok v b∧(Tame w b∧∃t:uQ ks,Ending.returned v=.returned (Ca ks (lR ks t))∧K t b.heap):=fun o a' b m g x=>by
  obtain⟨vs,f,hd⟩:=pc m x;obtain⟨t,rfl,u⟩:=rr hd;refine⟨g.defers,_,?_,g.tame,t,rfl,u⟩;unfold results;rw[lL];simp only[Sem.run_bind,Sem.run_map];rw[f _ (fun _=>rfl) (fun _ _=>rfl)]
  simp only[Result.andThen_ok,Sem.run_pure];rw[←Fa]
 exact rR i c p _ _ _ _ w _ y s (fun z a w h=>h.2.2.elim fun _ h=>by cases h.1) j (fun _ _ _ _ _ _ h=>h.elim) j
theorem HE.intro(d:P.follows .mixedOrders=true){f:FuncId}{fn:Func}{c:Code}{e:Ann}{args:List Value}{ks:List Kind}{K:uQ ks→ac→Prop}{h:ac}
  (i:P.funcs[f]? =some fn) (hb:fn.body=some c) (a:∀(args:Array Value) (w:World),(callFunc f args).run P w=.ok (.enter f args) w) (b:args.length≤fn.ntmps)
  (j:HN P fn c e args ks K h):HE P f args ks K h:=by
 refine⟨fun w g=>⟨a,?_⟩⟩
 subst g;exact(callsIn_wide (n:=0)).1 (callsIn_of_wp (F:=FW none) i hb trivial (MB d b j) rfl)
theorem HD.intro(d:P.follows .mixedOrders=true){f:FuncId}{fn:Func}{c:Code}{g:Ann}{args:List Value}{ks:List Kind}{K:ac→Prop}{h:ac}
  (k:P.funcs[f]? =some fn) (hb:fn.body=some c) (a:∀(args:Array Value) (w:World),(callFunc f args).run P w=.ok (.enter f args) w) (b:args.length≤fn.ntmps)
  (q:HN P fn c g args ks (fun _ h'=>K h') h):HD P f args K h:=by
 refine fun w m=>⟨a,fun n=>?_⟩
 subst m;exact(callsDIn_of_wp (F:=FW none) k hb trivial (MB d b q) rfl).mono fun e u s ⟨o,p,t,i,j⟩=>⟨o,p,⟨_,i⟩,j⟩
theorem HC.intro(d:P.follows .mixedOrders=true){f:FuncId}{fn:Func}{c:Code}{e:Ann}{args:List Value}{ks:List Kind}{K:uQ ks→ac→Prop}{h:ac}
 (g:P.funcs[f]? =some fn) (hb:fn.body=some c) (a:∀(args:Array Value) (w:World),(callFunc f args).run P w=.ok (.enter f args) w) (b:args.length≤fn.ntmps)
 (i:HN P fn c e args ks K h):HC P f args ks K h:=(HE.intro d g hb a b i).hc
theorem Lb{N:Nat}{args:List Value}(c:args.length≤N):Agree N (pk 0 args) {tmps:=args.toArray++mC (N-args.toArray.size) undef,defers:= []}:=by
 refine⟨by simp;omega,fun t v hv=>?_⟩
 obtain⟨_,b⟩:=uL args 0 t v hv;simp only[eT]at b;have a:=(bW.1 b).1;simp[Array.getElem?_append,a];rw[al a]at b;cases b;rfl
theorem HR{N:Nat}{fn:Func}{ks:List Kind}{K:uQ ks→ac→Prop}{d:ce}{a':Act}{a:World}(c:Agree N d a')(f:mu P d a.heap fn.results.toList (fun vs=>Cf ks vs fun t=>K t a.heap)):
  ∃t:uQ ks,(results fn a'.tmps).run P a=.ok (Ca ks (lR ks t)) a∧K t a.heap:=by
 obtain⟨vs,b,hd⟩:=pc c f;obtain⟨t,rfl,e⟩:=rr hd;refine⟨t,?_,e⟩;unfold results;rw[lL];simp only[Sem.run_bind,Sem.run_map];rw[b _ (fun _=>rfl) (fun _ _=>rfl)]
 simp only[Result.andThen_ok,Sem.run_pure];rw[←Fa]
end Go.Lift
namespace Go.Lift
open Go
variable {P:Program}
abbrev Dk(D:Nat):Deferred:={target:=.collected D,args:= #[]}
abbrev oI:Mk→Deferred
 | .it D=>Dk D
 | .call f vs=>{target:=.fn (.func f) #[],args:= #[]++vs.toArray}
theorem D3{N:Nat}:∀{ps:List Nat} {vs:List Value} {r:ce} {tmps:Array Value},yc N ps=true→Agree N r {tmps:=tmps,defers:= []}→
  Agree N (Qx ps vs r) {tmps:=(ps.zip vs).foldl (fun t x=>t.setIfInBounds x.1 x.2) tmps,defers:= []}
 | [],vs,r,tmps,_,h=>by cases vs<;>exact h
 |i::ps,[],r,tmps,_,h=>h
 |i::ps,v::vs,r,tmps,a,h=>by
  have a:(w6 i N&&yc N ps)=true:=a;rw[aY]at a;have b:i<N:=by simpa using a.1
  have:=h.put i v b;exact D3 (tmps:=tmps.setIfInBounds i v) a.2 this
theorem CU(w:World)(o:Obj):Tame w (w.alloc o):=⟨rfl,rfl,rfl⟩
theorem m0(w:World)(b:Nat)(o:Obj):Tame w (w.putObj b o):=⟨rfl,rfl,rfl⟩
theorem H3(w:World)(b:Nat)(o:Obj):(w.putObj b o).heap=w.heap.setIfInBounds b o:=rfl
theorem MH(ps:Array Nat)(vs:List Value)(t:Array Value):(ps.zip vs.toArray).foldl (fun t (x:Nat×Value)=>t.setIfInBounds x.1 x.2) t=(ps.toList.zip vs).foldl (fun t x=>t.setIfInBounds x.1 x.2) t:=by
 obtain⟨l⟩:=ps;simp
theorem Cb(B:P.follows .mixedOrders=true){n N:Nat}{g:Operand}{ps:Array Tmp}{assign body:Code}{aa ab:Ann}{ks:List Kind}{fv:Value}{r:ce}{a:Act}{w:World}{Q:Exit→Act→World→Prop}
  {KN:ac→Prop}{KX:Nat→ac→Prop}{KR:ac→Prop}(U:yc N ps.toList=true)(H:ps.toList.length=ks.length)(hg:cR r g=some fv)(Y:Agree N r a)
  (hR:RangeP P fv ks w.heap (fun Hn bz x k h'=>JK P N ps.toList ks assign body (.node aa ab) r (w.heap.size+1) Hn bz x k h') KN KX KR)
  (hn:∀m,Tame w m→KN m.heap→Q .normal {a with defers:=Dk w.heap.size::a.defers} m)
  (hx:∀i m,Tame w m→KX i m.heap→Q (.exit i) {a with defers:=Dk w.heap.size::a.defers} m)
  (hr:∀m,Tame w m→KR m.heap→Q .ret {a with defers:=Dk w.heap.size::a.defers} m):(Code.rangeFunc g ps assign body).wpIn (FW none) n P Q a w:=by
 refine wpIn_rangeFunc fun fn _=>?_
 obtain⟨lo,p⟩:∃lo:LoopState→Option Ex→Obj,lo=fun s j=>.loop {state:=s,pending:=GN j,fn,tmps:=a.tmps,params:=ps,assign,body,defers:=w.heap.size}:=⟨_,rfl⟩
 have hj:∀j:Option Ex,(GN j).isNone=j.isNone:=fun j=>by rcases j with _|⟨_|_⟩<;>rfl
 obtain⟨f,first,cap,rfl,he⟩:=hR.run lo (fun s j=>⟨_,by rw[p]⟩) (fun x h' K u A=>by
  refine⟨.inr ⟨_,rfl,⟨fun I hw1=>?_⟩⟩⟩
  subst hw1
  rw[p]at u
  have hy:=run_yield (P:=P) (args:=(lR ks x).toArray) u (by simp only[cP,se];rw[←H];rfl)
  refine⟨_,_,_,_,hy,fun c cs=>?_⟩
  have hA:Agree N (Qx ps.toList (lR ks x) r) {tmps:=(ps.zip (lR ks x).toArray).foldl (fun t (x:Nat×Value)=>t.setIfInBounds x.1 x.2) a.tmps,defers:= []}:=by
   rw[MH]
   exact D3 U ⟨Y.size,Y.look⟩
  have q:∀j:Option Ex,∀W:World,Tame I W→(W.heap[w.heap.size+1]? =some (lo .busy none)∧K j.isNone (W.heap.setIfInBounds (w.heap.size+1) (lo (if j.isNone then .ready else .done) j)))→
    ∃v m,(Instr.endRound (w.heap.size+1) (GN j)).run P W=.ok v m∧∃b,Ending.returned v=.returned (.bool b)∧Tame I m∧K b m.heap:=by
   rintro j W O ⟨h1,T⟩
   rw[p]at h1
   have:=run_endRound (P:=P) (GN j) h1
   refine⟨_,_,this,_,rfl,O.trans (m0 ..),?_⟩
   rw[p]at T
   rw[hj]
   exact T
  have:=roundIn_of_wpIn (F:=FW none) (n:=0) (P:=P) (l:=w.heap.size+1) (f:=fn) (assign:=assign) (body:=body) (w:=I)
   (tmps:=(ps.zip (lR ks x).toArray).foldl (fun t (x:Nat×Value)=>t.setIfInBounds x.1 x.2) a.tmps)
   (R:=fun e m=>∃b,e=.returned (.bool b)∧Tame I m∧K b m.heap) trivial (by
    refine rR (ro:=some (w.heap.size+1)) B assign aa _ _ _ _ I _ A hA (fun ch a w h=>h) ?_ (fun i r' a' m _ _ h=>h.elim) (fun r' a' m _ _ h=>h.elim)
    rintro r2 a2 V ha2 G ⟨z,D⟩
    rw[p]at z
    refine⟨_,run_beginRound z rfl,?_⟩
    have hb:∀o,o=lo .busy none→V.heap.setIfInBounds (w.heap.size+1) o=V.heap.setIfInBounds (w.heap.size+1) (lo .busy none):=fun o ho=>by rw[ho]
    refine rR (ro:=some (w.heap.size+1)) B body ab (fun _ T=>_) (fun e _ T=>_) _ _ (V.putObj (w.heap.size+1) _) _ (by
     rw[H3,hb _ (by rw[p])];exact D) ha2 (fun ch a w h=>h) ?_ ?_ ?_
    ·rintro r3 a3 L S y J
     exact q none L ((G.tame.trans (m0 ..)).trans y.tame) J
    ·rintro i r3 a3 L S y J
     exact q (some (.exit i)) L ((G.tame.trans (m0 ..)).trans y.tame) J
    ·rintro r3 a3 L S y J
     exact q (some .ret) L ((G.tame.trans (m0 ..)).trans y.tame) J)
  obtain⟨e,m,⟨b,rfl,O,hK⟩,X⟩:=this.2 c cs (fun d h=>by simp[FW]at h)
  exact⟨b,m,O,hK,X.steps⟩)
 have C:=he.run ((w.alloc (.deferred (some []))).alloc (lo .ready none)) rfl;refine⟨w.heap.size+1,[Dk w.heap.size],(w.alloc (.deferred (some []))).alloc (lo .ready none),{target:=.fn (.func f) cap,args:=first++ #[.func (.yield (w.heap.size+1)) #[] #[]]},(w.alloc (.deferred (some []))).alloc (lo .ready none),f,
  first++ #[.func (.yield (w.heap.size+1)) #[] #[]]++cap,(w.alloc (.deferred (some []))).alloc (lo .ready none),?_,?_,fun _ _=>trivial,?_,fun h=>by simp[FW]at h,?_⟩
 ·rw[p];exact run_enterLoop_outer fn a.tmps ps assign body
 ·have hev:=jq Y hg
  simp[resolve,hev,Deferred.ofValue,Sem.run_pure];rfl
 ·simp[invoke,C.1]
 ·refine DS ?_
  have e:(first.toList++ [Value.func (.yield (w.heap.size+1)) #[] #[]]++cap.toList).toArray=first++ #[.func (.yield (w.heap.size+1)) #[] #[]]++cap:=by apply cD;simp
  rw[←e];refine C.2.mono ?_;rintro e m ⟨O,t,rfl,s,j,X,u,q⟩;have Z:Tame w m:=((CU w _).trans (CU _ _)).trans O;rw[p]at u;refine⟨_,_,run_endLoop u X,?_⟩;have E:∀o,Tame w (m.putObj (w.heap.size+1) o):=fun o=>Z.trans (m0 ..)
  have hb:∀o,o=lo .exhausted j→(m.putObj (w.heap.size+1) o).heap=m.heap.setIfInBounds (w.heap.size+1) (lo .exhausted j):=fun o ho=>by rw[ho];rfl
  rcases j with _|⟨i|_⟩
  ·exact hn _ (E _) (by rw[hb _ (by rw[p])];exact q)
  ·exact wpIn_exit (hx i _ (E _) (by rw[hb _ (by rw[p])];exact q))
  ·exact wpIn_ret (hr _ (E _) (by rw[hb _ (by rw[p])];exact q))
theorem DJ{n N id d:Nat}{ops:Array Oper}{m o:Oper}{x:Operand}{f:FuncId}{as:List Operand}{vs:List Value}{v:Value}{r:ce}{a:Act}{w:World}{Q:Exit→Act→World→Prop}(b:DK ops.toList=some (m,o,x,d,f,as))(hv:cR r x=some v)(hb:d<N)(g:mJ ((d,v)::r) as=some vs)(i:Agree N r a)
  (j:∀a',Agree N ((d,v)::r) a'→a'.defers=oI (.call f vs)::a.defers→Q .normal a' w):(Code.region id ops false).wpIn (FW none) n P Q a w:=by
 unfold DK at b;split at b
 ·rename_i m' o' hl
  split at b
  ·rename_i x' d' c h1 h2 h3 h4 h5 h6
   split at b
   ·rename_i f' hc
    cases b;have z:ops[0]? =some m:=by rw[←aZ,hl];rfl
    have u:ops[1]? =some o:=by rw[←aZ,hl];rfl
    have es:ops.size=2:=by rw[←Array.length_toList,hl];rfl
    have q:∀y,Region.wanted m y=true:=fun y=>by simp[Region.wanted,h2]
    have t:∀y,Region.wanted o y=true:=fun y=>by simp[Region.wanted,h6]
    refine wpIn_region ?_;rw[es,show eX 2= [0,1]from rfl]
    simp only[wpOpsIn,z,u,q,t,if_true];refine BigFrame.wpIn_move x h1 ?_;rw[jq i hv,h3];have e:=i.put d v hb;refine⟨fun _ _=>trivial,?_⟩
    have s:((Oper.semAt (FW none).round (a.put (some d) v).eval o).run P w)=.ok (.defer (oI (.call f vs))) w:=by
     show((execOp (a.put (some d) v).eval o).run P w)=_
     have p:=lp e g;have k:c.args.map (a.put (some d) v).eval=vs.toArray:=by rw[←p];apply cD;simp
     simp only[execOp,h4,resolve,hc,k];simp[Act.eval,Deferred.ofValue,oI]
    rw[s,Oper.uponIn_defer,h5];exact j _ ⟨e.size,e.look⟩ rfl
   ·cases b
  ·cases b
 ·cases b
theorem Gi(H:P.follows .mixedOrders=true){n N:Nat}(c:Code):∀(u:Ann) (Kn:List Mk→ce→ac→Prop) (Kx:Ex→List Mk→ce→ac→Prop) (ms:List Mk) (r:ce) (a:Act) (w:World) (Q:Exit→Act→World→Prop),
  xZ P N c u Kn Kx ms r w.heap→Agree N r a→a.defers=ms.map oI→(∀J a w,¬Q (.panic J) a w)→
  (∀p s a' q,Agree N s a'→a'.defers=p.map oI→Tame w q→Kn p s q.heap→Q .normal a' q)→
  (∀i p s a' q,Agree N s a'→a'.defers=p.map oI→Tame w q→Kx (.exit i) p s q.heap→Q (.exit i) a' q)→
  (∀p s a' q,Agree N s a'→a'.defers=p.map oI→Tame w q→Kx .ret p s q.heap→Q .ret a' q)→
  c.wpIn (FW none) n P Q a w:=by
 have plain:∀(c:Code) (u:Ann) (Kn:List Mk→ce→ac→Prop) (Kx:Ex→List Mk→ce→ac→Prop) (ms:List Mk) (r:ce) (a:Act) (w:World) (Q:Exit→Act→World→Prop),
  jH P N c u (Kn ms) (fun e=>Kx e ms) r w.heap→Agree N r a→a.defers=ms.map oI→(∀J a w,¬Q (.panic J) a w)→
  (∀p s a' q,Agree N s a'→a'.defers=p.map oI→Tame w q→Kn p s q.heap→Q .normal a' q)→
  (∀i p s a' q,Agree N s a'→a'.defers=p.map oI→Tame w q→Kx (.exit i) p s q.heap→Q (.exit i) a' q)→
  (∀p s a' q,Agree N s a'→a'.defers=p.map oI→Tame w q→Kx .ret p s q.heap→Q .ret a' q)→
  c.wpIn (FW none) n P Q a w:=by
  intro c u Kn Kx ms r a w Q j z hd D A hx C;exact rR H c u _ _ r a w Q j z D (fun s a' q E B F=>A ms s a' q E (B.defers.trans hd) B.tame F) (fun i s a' q E B F=>hx i ms s a' q E (B.defers.trans hd) B.tame F)
   (fun s a' q E B F=>C ms s a' q E (B.defers.trans hd) B.tame F)
 induction c with
 |skip=>intro u Kn Kx ms r a w Q j;exact plain _ u Kn Kx ms r a w Q j
 |region id ops dr=>
  intro u Kn Kx ms r a w Q j z hd D A hx C;have j:(match DK ops.toList with
   |none=>jH P N (.region id ops dr) u (Kn ms) (fun e=>Kx e ms) r w.heap
   |some (_,_,x,d,f,as)=>bif dr then False else match cR r x with
    |some v=>bif w6 d N then(match mJ ((d,v)::r) as with|some vs=>Kn (.call f vs::ms) ((d,v)::r) w.heap|none=>False)else False
    |none=>False):=j
  split at j
  ·exact plain _ u Kn Kx ms r a w Q j z hd D A hx C
  ·rename_i m o x d f as he
   cases dr with
   |true=>exact j.elim
   |false=>
    rw[cond_false]at j;split at j
    · rename_i v hv
      cases hb:w6 d N with
      |false=>rw[hb]at j;exact j.elim
      |true=>
       rw[hb,cond_true]at j;split at j
       ·rename_i vs hvs
        refine DJ he hv (by simpa using hb) hvs z fun a' V T=>A (.call f vs::ms) _ a' w V ?_ ⟨rfl,rfl,rfl⟩ j
        rw[T,hd];rfl
       ·exact j.elim
    · exact j.elim
 |seq x y ihx ihy=>
  intro u Kn Kx ms r a w Q j z hd D A hx C;have j:(bif (bif ri x then true else ri y)then xZ P N x u.l (fun ms s h'=>xZ P N y u.r Kn Kx ms s h') Kx ms r w.heap
   else jH P N (.seq x y) u (Kn ms) (fun e=>Kx e ms) r w.heap):=j
  cases hb:(bif ri x then true else ri y)with
  |false=>rw[hb]at j;exact plain _ _ _ _ _ _ _ _ _ j z hd D A hx C
  |true=>
   rw[hb,cond_true]at j;refine wpIn_seq (ihx u.l _ Kx ms r a w _ j z hd (fun J a w=>D J a w) ?_ hx C)
   intro U r1 Z Y O W I X;exact ihy u.r Kn Kx U r1 Z Y Q X O W D (fun p s a' q E B F G=>A p s a' q E B (I.trans F) G) (fun i p s a' q E B F G=>hx i p s a' q E B (I.trans F) G)
    (fun p s a' q E B F G=>C p s a' q E B (I.trans F) G)
 |cond c x y ihx ihy=>
  intro u Kn Kx ms r a w Q j z hd D A hx C;have j:(bif (bif ri x then true else ri y)then
    (match cR r c with
     |some (.bool t)=>CondP t (xZ P N x u.l Kn Kx ms r w.heap) (xZ P N y u.r Kn Kx ms r w.heap)
     |_=>False)
   else jH P N (.cond c x y) u (Kn ms) (fun e=>Kx e ms) r w.heap):=j
  cases hb:(bif ri x then true else ri y)with
  |false=>rw[hb]at j;exact plain _ _ _ _ _ _ _ _ _ j z hd D A hx C
  |true=>
   rw[hb,cond_true]at j;split at j
   ·rename_i t K
    exact wpIn_cond_split (jq z K) (fun e=>ihx _ Kn Kx ms r a w Q (j.yes e) z hd D A hx C) (fun e=>ihy _ Kn Kx ms r a w Q (j.no e) z hd D A hx C)
   ·exact j.elim
 |block id b ih=>
  intro u Kn Kx ms r a w Q j z hd D A hx C;have j:(bif ri b then xZ P N b u Kn (fun e ms s h'=>match e with
    | .exit i=>bif bD i id then Kn ms s h' else Kx (.exit i) ms s h'
    | .ret=>Kx .ret ms s h') ms r w.heap
   else jH P N (.block id b) u (Kn ms) (fun e=>Kx e ms) r w.heap):=j
  cases hb:ri b with
  |false=>rw[hb]at j;exact plain _ _ _ _ _ _ _ _ _ j z hd D A hx C
  |true=>
   rw[hb,cond_true]at j;refine wpIn_block (ih u Kn _ ms r a w _ j z hd (fun J a w=>D J a w) A (fun i p s a' q E B F G=>?_) C)
   simp only[Exit.inBlock]at G⊢;cases hi:bD i id with
   |true=>
    rw[hi,cond_true]at G;rw[if_pos (aQ hi)];exact A p s a' q E B F G
   |false=>
    rw[hi,cond_false]at G;rw[if_neg (fun e=>by rw[e,qS]at hi;cases hi)]
    exact hx i p s a' q E B F G
 |loop b ih=>intro u Kn Kx ms r a w Q j;exact plain _ u Kn Kx ms r a w Q j
 |rangeFunc g ps assign body _ _=>
  intro u Kn Kx ms r a w Q j z hd D A hx C;cases u with
  |rf ks aa ab=>
   have j:(bif yc N ps.toList&&bD ps.toList.length ks.length then
    (match cR r g with
     |some fv=>RangeP P fv ks w.heap (fun Hn bz x k h'=>JK P N ps.toList ks assign body (.node aa ab) r (w.heap.size+1) Hn bz x k h')
       (fun h'=>Kn (.it w.heap.size::ms) r h') (fun i h'=>Kx (.exit i) (.it w.heap.size::ms) r h') (fun h'=>Kx .ret (.it w.heap.size::ms) r h')
     |none=>False)else False):=j
   cases hb:(yc N ps.toList&&bD ps.toList.length ks.length)with
   |false=>rw[hb]at j;exact j.elim
   |true=>
    rw[hb,cond_true]at j;rw[aY]at hb;split at j
    · rename_i fv hfv
      have R:Agree N r {a with defers:=Dk w.heap.size::a.defers}:=⟨z.size,z.look⟩;have S:({a with defers:=Dk w.heap.size::a.defers}:Act).defers=(.it w.heap.size::ms).map oI:=by rw[List.map_cons,←hd]
      exact Cb H hb.1 (aQ hb.2) hfv z j (fun q K L=>A _ r _ q R S K L) (fun i q K L=>hx i _ r _ q R S K L) (fun q K L=>C _ r _ q R S K L)
    · exact j.elim
  |_=>exact j.elim
 |exit id=>intro u Kn Kx ms r a w Q j;exact plain _ u Kn Kx ms r a w Q j
 |scope b _=>intro u Kn Kx ms r a w Q j;exact j.elim
 |label l=>intro u Kn Kx ms r a w Q j;exact plain _ u Kn Kx ms r a w Q j
 |goto l=>intro u Kn Kx ms r a w Q j;exact j.elim
 |ret=>intro u Kn Kx ms r a w Q j;exact plain _ u Kn Kx ms r a w Q j
 |refuse why=>intro u Kn Kx ms r a w Q j;exact j.elim
theorem un{fn:Func}{ks:List Kind}{K:uQ ks→ac→Prop}{N:Nat}{n:Nat}{r:ce}{a:Act}{i:World}(d:Agree N r a):∀(ms:List Mk) (w:World),Tame i w→
  HL P ms (fun h'=>mu P r h' fn.results.toList fun vs=>Cf ks vs fun t=>K t h') w.heap→
  LeavesInM (FW none) n P fn a.tmps (fun e c=>Tame i c∧∃t:uQ ks,e=.returned (Ca ks (lR ks t))∧K t c.heap) (ms.map oI) .returning w
 | [],w,ht,h=>by
  obtain⟨t,b,m⟩:=HR d h;exact⟨_,b,ht,t,rfl,m⟩
 | .it D::ms,w,ht,h=>by
  refine⟨by simp,.inl ⟨D,_,rfl,run_takeDeferred h.1,?_⟩⟩;exact un d ms (w.putObj D (.deferred none)) (ht.trans (m0 ..)) h.2
 | .call f vs::ms,w,ht,h=>by
  obtain⟨hc,hd⟩:=h w rfl;refine⟨by simp,.inr ⟨(fun e=>by cases e),.func f,#[],f,vs.toArray,rfl,?_,fun _ _=>trivial,CallsDIn.mono (hd (n-1)) fun e u c ⟨o,g,⟨v,j⟩,k⟩=>?_⟩⟩
  ·have:=hc vs.toArray w
   simpa[invoke]using this
  ·subst o j
   exact un d ms c (ht.trans g) k
theorem HE.introM(o:P.follows .mixedOrders=true){f:FuncId}{fn:Func}{c:Code}{s:Ann}{args:List Value}{ks:List Kind}{K:uQ ks→ac→Prop}{h:ac}
  (u:P.funcs[f]? =some fn) (hb:fn.body=some c) (j:∀(args:Array Value) (w:World),(callFunc f args).run P w=.ok (.enter f args) w) (m:args.length≤fn.ntmps)
  (y:OU P fn c s args ks K h):HE P f args ks K h:=by
 refine⟨fun w v=>⟨j,?_⟩⟩
 subst v;refine(callsIn_wide (n:=0)).1 (callsIn_of_wp_marks (F:=FW none) u hb trivial ?_ rfl);refine wpIn_mono (Q:=fun e a b=>(∀p,e≠ .panic p)∧bodyPostM (FW none) 0 P fn (fun e b=>Tame w b∧∃t:uQ ks,e=.returned (Ca ks (lR ks t))∧K t b.heap) e a b) ?_ fun e a w h=>h.2
 refine Gi o c s _ _ [] _ _ w _ y (Lb m) rfl (fun p a w h=>h.1 p rfl) ?_ (fun _ _ _ _ _ _ _ _ h=>h.elim) ?_
 ·intro d x a' b k g i q
  refine⟨(fun _ e=>by cases e),?_⟩
  show LeavesInM _ _ _ _ _ _ a'.defers _ _
  rw[g];exact un k d b i q
 ·intro d x a' b k g i q
  refine⟨(fun _ e=>by cases e),?_⟩
  show LeavesInM _ _ _ _ _ _ a'.defers _ _
  rw[g];exact un k d b i q
theorem HC.introM(d:P.follows .mixedOrders=true){f:FuncId}{fn:Func}{c:Code}{e:Ann}{args:List Value}{ks:List Kind}{K:uQ ks→ac→Prop}{h:ac}
 (g:P.funcs[f]? =some fn) (hb:fn.body=some c) (a:∀(args:Array Value) (w:World),(callFunc f args).run P w=.ok (.enter f args) w) (b:args.length≤fn.ntmps)
 (i:OU P fn c e args ks K h):HC P f args ks K h:=(HE.introM d g hb a b i).hc
end Go.Lift
namespace Go.Lift
open Go
def AppP(z:Option (List Value))(e b:Nat)(t:TypeId)(a:Option Addr)(sl d c:Nat)(xs:List Value)(h:ac)(K:SliceV→ac→Prop):Prop:=
 (sl+c≤d→uj h a (sl*e) xs∧bU xs=true∧K ⟨a,sl+c,d⟩ (eW h a (sl*e) xs))∧
 (d<sl+c→∃old z',SRow h a (sl*e) old∧z=some z'∧0<b∧Builtin.nextslicecap (sl+c) d*b≤2^48∧
  ∀nc,sl+c≤nc→K ⟨some (aH h),sl+c,nc⟩ (hnew h (old++xs++c8 (nc-(sl+c)) z') t))
def NextP(a:Addr)(h:ac)(Kend:Prop)(Kstep:MapEntry→ac→Prop):Prop:=
 a.off=0∧∃m since seen last,h[a.block]? =some (.mapIter m since seen last)∧
  ((m=none∧Kend)∨
   (∃r es clock,m=some r∧h[r]? =some (.map es clock)∧(seen.isEmpty=true∨es.isEmpty=true∨es.all (fun e=>decide (e.born≥last))=false)∧
    ((∀e∈es.toList,e.born<since→seen.contains e.born=true)→Kend)∧
    (∀e∈es.toList,seen.contains e.born=false→Kstep e (h.setIfInBounds a.block (.mapIter (some r) since (seen.push e.born) clock)))))
def UT(c:CK)(m:Option Nat)(k:Value)(h:ac)(K:ac→Prop):Prop:=
 (m=none∧K h)∨∃r:Nat,m=some r∧ru c h r∧K (BF h r k)
end Go.Lift
